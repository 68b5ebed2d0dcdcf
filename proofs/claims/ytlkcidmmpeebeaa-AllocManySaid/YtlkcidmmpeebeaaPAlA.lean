/- Proved: alloc: uses -/
import Derived.Test.YtlkcidmmpeebeaaPcD
import Derived.Test.YtlkcidmmpeebeaaPSmall
set_option linter.unusedVariables false
set_option linter.unusedSimpArgs false
namespace Go.Proofs.Ytlkcidmmpeebeaa
open Go.RowKit Go.PX
set_option maxRecDepth 100000
def mxI (x y:Int):Int:=if y > x then y else x
def useD (l:List Int) (v n:Int):List Int:=l.set v.toNat (mxI ((l[v.toNat]?).getD 0) n)
theorem use_set {l:List Int} {v n z:Int} (hz:l[v.toNat]?=some z):(l.map encI).set v.toNat [.sc (.I (if n > z then n else z))]=(useD l v n).map encI:=by
 unfold useD mxI; rw [hz,List.map_set]; rfl
theorem useD_len (l:List Int) (v n:Int):(useD l v n).length=l.length:=by unfold useD; simp
def termU (t:TermD):List Int:=(if t.kind=2∨t.kind=4∨t.kind=5 then [t.a] else if t.kind=3∨t.kind=6 then t.args else [])++((if 0≤t.b0 then t.args0 else [])++(if 0≤t.b1 then t.args1 else []))
def defI (l:List Int) (o:OpD) (k:Nat):List Int:=if R.defines o.kind=true then l.set o.dst.toNat (k:Int) else l
def defK (cn:Nat) (ops:List OpD) (k:Nat):List Int:=(ops.take k).zipIdx.foldl (fun l p=>defI l p.1 p.2) (List.replicate cn (-1))
def use1 (l:List Int) (o:OpD) (k:Nat):List Int:=if R.usesA o.kind=true then useD l o.a (k:Int) else l
def use2 (l:List Int) (o:OpD) (k:Nat):List Int:=if R.usesB o.kind=true then useD (use1 l o k) o.b (k:Int) else use1 l o k
def useK (cn:Nat) (ops:List OpD) (k:Nat):List Int:=(ops.take k).zipIdx.foldl (fun l p=>use2 l p.1 p.2) (defK cn ops ops.length)
def endK (cn:Nat) (b:BlockD) (k:Nat):List Int:=((termU b.term).take k).foldl (fun l v=>useD l v (b.ops.length:Int)) (useK cn b.ops b.ops.length)
abbrev MapS:=List ((Int × Int × Int) × (Int × Int × Int))
def setS (m:MapS) (k:Int × Int × Int) (v:Int × Int × Int):MapS:=if m.any (fun p=>p.1==k) then m.map (fun p=>if p.1==k then (k,v) else p) else m++[(k,v)]
def mark1 (df:List Int) (k:Nat) (l:List Int) (v:Int × Int × Int):List Int:=if v.1=2∧(df[v.2.1.toNat]?).getD 0<(k:Int) then useD l v.2.1 (k:Int) else l
def markStep (df:List Int) (s:MapS × List Int) (p:OpD × Nat):MapS × List Int :=
 if p.1.kind=21 then (setS s.1 (p.1.ctx,p.1.var,p.1.piece) (p.1.sk,p.1.sv,p.1.sa),s.2)
 else if p.1.kind=19∨p.1.kind=20 then (s.1,(s.1.map (·.2)).foldl (mark1 df p.2) s.2) else s
def markK (df:List Int) (ops:List OpD) (l:List Int) (k:Nat):MapS × List Int:=(ops.take k).zipIdx.foldl (markStep df) ([],l)
def lastD (keep:Bool) (cn:Nat) (b:BlockD):List Int :=
 if keep=true then (markK (defK cn b.ops b.ops.length) b.ops (endK cn b (termU b.term).length) b.ops.length).2 else endK cn b (termU b.term).length
theorem mark1_len (df:List Int) (k:Nat) (l:List Int) (v:Int × Int × Int):(mark1 df k l v).length=l.length:=by unfold mark1; split <;> simp [useD_len]
theorem markStep_len (df:List Int) (s:MapS × List Int) (p:OpD × Nat):(markStep df s p).2.length=s.2.length:=by
 have h:∀ (xs:List (Int × Int × Int)) (l:List Int),(xs.foldl (mark1 df p.2) l).length=l.length:=by
  intro xs; induction xs with
  | nil=>intro l; rfl
  | cons x xs ih=>intro l; rw [List.foldl_cons,ih,mark1_len]
 unfold markStep; split
 ·rfl
 ·split
  ·exact h _ _
  ·rfl
theorem markK_len (df:List Int) (ops:List OpD) (l:List Int) (k:Nat):(markK df ops l k).2.length=l.length:=by
 have h:∀ (xs:List (OpD × Nat)) (s:MapS × List Int),(xs.foldl (markStep df) s).2.length=s.2.length:=by
  intro xs; induction xs with
  | nil=>intro s; rfl
  | cons x xs ih=>intro s; rw [List.foldl_cons,ih,markStep_len]
 exact h _ _
theorem fold_take {α:Type} (f:α→OpD × Nat→α) (x:α) {ops:List OpD} {k:Nat} {y:OpD} (hy:ops[k]?=some y):(ops.take (k+1)).zipIdx.foldl f x=f ((ops.take k).zipIdx.foldl f x) (y,k):=by
 have hk:=(List.getElem?_eq_some_iff.1 hy).1
 rw [List.take_add_one,hy]
 simp [List.zipIdx_append,List.foldl_append,Nat.min_eq_left (Nat.le_of_lt hk)]
theorem defI_len (l:List Int) (o:OpD) (k:Nat):(defI l o k).length=l.length:=by unfold defI; split <;> simp
theorem use2_len (l:List Int) (o:OpD) (k:Nat):(use1 l o k).length=l.length∧(use2 l o k).length=l.length:=by
 have h1:(use1 l o k).length=l.length:=by unfold use1; split <;> simp [useD_len]
 exact ⟨h1,by unfold use2; split <;> simp [useD_len,h1]⟩
theorem fold_len {α:Type} {f:List Int→α→List Int} (h:∀ l x,(f l x).length=l.length):∀ (xs:List α) (l:List Int),(xs.foldl f l).length=l.length
 | [],l=>rfl
 | x::xs,l=>by rw [List.foldl_cons,fold_len h xs,h]
theorem defK_len (cn:Nat) (ops:List OpD) (k:Nat):(defK cn ops k).length=cn:=by unfold defK; rw [fold_len (f:=fun l (p:OpD × Nat)=>defI l p.1 p.2) (fun l p=>defI_len l p.1 p.2)]; simp
theorem useK_len (cn:Nat) (ops:List OpD) (k:Nat):(useK cn ops k).length=cn:=by unfold useK; rw [fold_len (f:=fun l (p:OpD × Nat)=>use2 l p.1 p.2) (fun l p=>(use2_len l p.1 p.2).2),defK_len]
theorem endK_len (cn:Nat) (b:BlockD) (k:Nat):(endK cn b k).length=cn:=by unfold endK; rw [fold_len fun l v=>useD_len l v _,useK_len]
theorem lastD_len (keep:Bool) (cn:Nat) (b:BlockD):(lastD keep cn b).length=cn:=by unfold lastD; split <;> simp [markK_len,endK_len]
theorem endK_succ {cn:Nat} {b:BlockD} {k:Nat} {y:Int} (hy:(termU b.term)[k]?=some y):endK cn b (k+1)=useD (endK cn b k) y (b.ops.length:Int):=by
 unfold endK; rw [List.take_add_one,hy,List.foldl_append]; rfl
theorem set_minus {cn k:Nat} (h:k<cn):((List.replicate k (-1:Int)++List.replicate (cn-k) 0).map encI).set k [.sc (.I (-1))]=(List.replicate (k+1) (-1:Int)++List.replicate (cn-(k+1)) 0).map encI:=by
 obtain ⟨d,hd⟩:∃ d,cn-k=d+1:=⟨cn-k-1,by omega⟩
 rw [hd,show cn-(k+1)=d by omega,List.replicate_succ,List.replicate_succ',List.map_append,List.map_cons,List.set_append_right _ _ (by simp)]
 simp [encI]
structure AOk (cn:Nat) (b:BlockD):Prop where
 pos:cn≤1000000
 ops:b.ops.length≤1000000
 dst:∀ o∈b.ops,R.defines o.kind=true→0≤o.dst∧o.dst<(cn:Int)
 ua:∀ o∈b.ops,R.usesA o.kind=true→0≤o.a∧o.a<(cn:Int)
 ub:∀ o∈b.ops,R.usesB o.kind=true→0≤o.b∧o.b<(cn:Int)
 len:b.term.args.length≤1000000∧b.term.args0.length≤1000000∧b.term.args1.length≤1000000
 term:∀ v∈termU b.term,0≤v∧v<(cn:Int)
 src:∀ o∈b.ops,o.kind=21→o.sk=2→0≤o.sv∧o.sv<(cn:Int)

set_option maxHeartbeats 400000 in
theorem con_f104 (k:Int):PX.Con Try.prog 104 [(.J k)] [] 1 100000 (.sc (.bool (R.defines k))) []:=by
 refine PX.con_intro [(.J k)] 9 Try.func104 rfl rfl (by kernel_rfl) (by kernel_rfl) ?_
 intro E a hE hS
 generalize E.w0=w at hS ⊢
 have mix:=mixed
 refine PX.G [] [] 1 [] [] [.au] [0] [] hS hE trivial fun a w hS=>?_
 refine PX.G [(.e 2 (.sc (.bool (decide (1≤k)&&decide (k≤15)))))] [] 1 [] [(2,decide (1≤k))] [.au,.au,.au,.au,.au,.pk,.au] [2] [] hS hE trivial fun a w hS=>?_
 refine wp_ret ?_
 try simp only [Exit.then,Exit.inBlock,Nat.reduceEqDiff,↓reduceIte]
 rw [show (.sc (.bool (R.defines k)))=((.sc (.bool (decide (1≤k)&&decide (k≤15)))):PX.PV) from by simp [R.defines]]
 exact PX.ret_s hS hE (by kernel_rfl) (by kernel_rfl) (by kernel_rfl) (.inl rfl)

set_option maxHeartbeats 400000 in
theorem con_f141 (k:Int):PX.Con Try.prog 141 [(.J k)] [] 1 100000 (.sc (.bool (R.usesA k))) []:=by
 refine PX.con_intro [(.J k)] 13 Try.func141 rfl rfl (by kernel_rfl) (by kernel_rfl) ?_
 intro E a hE hS
 generalize E.w0=w at hS ⊢
 have mix:=mixed
 refine PX.G [] [] 1 [] [] [.au] [0] [] hS hE trivial fun a w hS=>?_
 refine PX.G [(.e 2 (.sc (.bool ((decide (2≤k)&&decide (k≤16))||(k==18)))))] [] 1 [] [(2,decide (2≤k)),(6,(decide (2≤k)&&decide (k≤16)))] [.au,.au,.au,.au,.au,.pk,.au,.au,.au,.pk,.au] [2] [] hS hE trivial fun a w hS=>?_
 refine wp_ret ?_
 try simp only [Exit.then,Exit.inBlock,Nat.reduceEqDiff,↓reduceIte]
 rw [show (.sc (.bool (R.usesA k)))=((.sc (.bool ((decide (2≤k)&&decide (k≤16))||(k==18)))):PX.PV) from by unfold R.usesA; simp [Bool.or_comm,Bool.or_left_comm,Bool.or_assoc]]
 exact PX.ret_s hS hE (by kernel_rfl) (by kernel_rfl) (by kernel_rfl) (.inl rfl)

set_option maxHeartbeats 400000 in
theorem con_f142 (k:Int):PX.Con Try.prog 142 [(.J k)] [] 1 100000 (.sc (.bool (R.usesB k))) []:=by
 refine PX.con_intro [(.J k)] 13 Try.func142 rfl rfl (by kernel_rfl) (by kernel_rfl) ?_
 intro E a hE hS
 generalize E.w0=w at hS ⊢
 have mix:=mixed
 refine PX.G [] [] 1 [] [] [.au] [0] [] hS hE trivial fun a w hS=>?_
 refine PX.G [(.e 2 (.sc (.bool ((decide (3≤k)&&decide (k≤14))||(k==16)))))] [] 1 [] [(2,decide (3≤k)),(6,(decide (3≤k)&&decide (k≤14)))] [.au,.au,.au,.au,.au,.pk,.au,.au,.au,.pk,.au] [2] [] hS hE trivial fun a w hS=>?_
 refine wp_ret ?_
 try simp only [Exit.then,Exit.inBlock,Nat.reduceEqDiff,↓reduceIte]
 rw [show (.sc (.bool (R.usesB k)))=((.sc (.bool ((decide (3≤k)&&decide (k≤14))||(k==16)))):PX.PV) from by unfold R.usesB; simp [Bool.or_comm,Bool.or_left_comm,Bool.or_assoc]]
 exact PX.ret_s hS hE (by kernel_rfl) (by kernel_rfl) (by kernel_rfl) (.inl rfl)

set_option maxHeartbeats 400000 in
theorem con_f140 (l:List Int) (cn:Nat) (hl:l.length=cn) (v n:Int) (hv:0≤v∧v<(cn:Int)):PX.Con Try.prog 140 [(.J v),(.J n),(.ptr 1 0)] [(1,.box 35 [(.own 2 1 cn)]),(2,.row 3 1 true (l.map encI))] 3 100000 (.tup []) [(1,some (.box 35 [(.own 2 1 cn)])),(2,some (.row 3 1 true ((useD l v n).map encI)))]:=by
 refine PX.con_intro [(.J v),(.J n),(.ptr 1 0)] 14 Try.func140 rfl rfl (by kernel_rfl) (by kernel_rfl) ?_
 intro E a hE hS
 generalize E.w0=w at hS ⊢
 have mix:=mixed
 obtain ⟨z,hz⟩:=get_of_lt (show v.toNat<l.length by omega)
 refine PX.D0 [] [(2,.row 3 1 true ((l.map encI).set v.toNat [(.sc (.I (if n > z then n else z)))]))] 3 [.q (v=(v.toNat:Int)),.q (v.toNat<cn),.q ((l.map encI)[v.toNat]?=some (encI z)),.q (v=(v.toNat:Int)),.q (v.toNat<cn),.q ((l.map encI)[v.toNat]?=some (encI z))] [] [.au,.au,.au,.au,.ix v.toNat [],.lr (encI z),.au,.au,.ix v.toNat [],.lr (encI z)] [] [1,2] hS mixed hE ⟨by omega,by omega,PX.map_get hz,by omega,by omega,PX.map_get hz,trivial⟩ fun a w hS=>?_
 rw [show ((l.map encI).set v.toNat [(.sc (.I (if n > z then n else z)))])=(useD l v n).map encI from use_set hz] at hS
 try simp only [Exit.then,Exit.inBlock,Nat.reduceEqDiff,↓reduceIte]
 exact PX.ret_s hS hE (by kernel_rfl) (by kernel_rfl) (by kernel_rfl) (.inr rfl)

set_option maxHeartbeats 2000000 in
theorem con_f143 (t:TermD) (h1:t.args.length≤1000000) (h2:t.args0.length≤1000000) (h3:t.args1.length≤1000000):PX.Con Try.prog 143 [(.agg [(.J t.kind),(.J t.a),(.J t.n),(.imm 1 (t.args.map encI)),(.J t.b0),(.imm 1 (t.args0.map encI)),(.J t.b1),(.imm 1 (t.args1.map encI))])] [] 1 100000 (.imm 1 ((termU t).map encI)) []:=by
 refine PX.con_intro [(.agg [(.J t.kind),(.J t.a),(.J t.n),(.imm 1 (t.args.map encI)),(.J t.b0),(.imm 1 (t.args0.map encI)),(.J t.b1),(.imm 1 (t.args1.map encI))])] 38 Try.func143 rfl rfl (by kernel_rfl) (by kernel_rfl) ?_
 intro E a hE hS
 generalize E.w0=w at hS ⊢
 have mix:=mixed
 refine PX.G [(.e 1 (.ptr 1 0))] [(1,.box 60 [(.J t.kind),(.J t.a),(.J t.n),(.imm 1 (t.args.map encI)),(.J t.b0),(.imm 1 (t.args0.map encI)),(.J t.b1),(.imm 1 (t.args1.map encI))])] 2 [] [] [.au,.au] [1] [1] hS hE trivial fun a w hS=>?_
 refine PX.G [(.e 3 (.sc (.slice none 0 0)))] [] 2 [] [] [.au] [1,3] [1] hS hE trivial fun a w hS=>?_
 replace hS:=PX.sl [1,3] (PX.reslot (t:=3) (.own 2 1 0) (PX.newrow 3 1 hS (hE.le (by decide))) rfl (PX.nil_own 2 1))
 refine wp_seq_k fun K1 hK1=>?_
 refine PX.G [(.e 7 (.J t.kind))] [] 3 [] [] [.au,.au] [1,3,7] [1,2] hS hE trivial fun a w hS=>?_
 refine wp_block ?_
 refine wp_seq_k fun K2 hK2=>?_
 refine PX.G [(.e 8 (.sc (.bool (t.kind==2))))] [] 3 [] [] [.au,.au] [1,3,7,8] [1,2] hS hE trivial fun a w hS=>?_
 refine PX.cond_s (t.kind==2) hS (by kernel_rfl) (fun h3=>?_) (fun h3=>?_)
 ·skip
  refine wp_skip ?_
  refine hK2 _ _ ?_
  refine PX.cond_s (t.kind==2) hS (by kernel_rfl) (fun h4=>?_) (fun h4=>nomatch (h3.symm.trans h4))
  refine PX.G0 [(.e 3 (.own 4 1 1))] [(4,.row 3 1 true ([[(.J t.a)]]))] 5 [.b (lenIs 0 ([])),.b (lenIs 1 ([[(.J t.a)]])),.b (Nat.ble (1) 1000000000)] [] [.au,.au,.au,.au,.au,.au] [1,3] [1,4] hS hE ⟨rfl,rfl,rfl,trivial⟩ fun a w hS=>?_
  refine hK1 _ _ ?_
  refine wp_seq_k fun K5 hK5=>?_
  refine PX.G [(.e 25 (.agg [(.J t.b0),(.imm 1 (t.args0.map encI)),(.J t.b1),(.imm 1 (t.args1.map encI))])),(.e 26 (.J 0))] [] 5 [] [] [.au,.au,.au] [3,25,26] [4] hS hE trivial fun a w hS=>?_
  refine wp_block ?_
  refine wp_loop_rounds 3 ?_
  rw [rounds_succ]
  refine PX.G [(.e 27 (.sc (.bool true)))] [] 5 [] [] [.au] [3,25,26,27] [4] hS hE trivial fun a w hS=>?_
  refine wp_seq_k fun K6 hK6=>?_
  refine PX.cond_s true hS (by kernel_rfl) (fun h7=>?_) (fun h7=>nomatch h7)
  refine wp_skip ?_
  refine hK6 _ _ ?_
  refine wp_seq_k fun K8 hK8=>?_
  refine wp_block ?_
  refine PX.G [(.e 5 (.ptr 5 0))] [(5,.box 57 [(.J t.b0),(.imm 1 (t.args0.map encI))])] 6 [.q (0=((0:Nat):Int))] [] [.ix 0 [],.au,.au] [3,5,25,26] [4,5] hS hE ⟨rfl,trivial⟩ fun a w hS=>?_
  refine PX.G [(.e 31 (.sc (.bool (decide (0≤t.b0)))))] [] 6 [] [] [.au,.au,.au] [3,5,25,26,31] [4,5] hS hE trivial fun a w hS=>?_
  refine PX.cond_s (decide (0≤t.b0)) hS (by kernel_rfl) (fun h9=>?_) (fun h9=>?_)
  ·skip
   refine PX.G0 [(.e 3 (.own 6 1 (1+(t.args0.map encI).length)))] [(6,.row 3 1 true ([[(.J t.a)]]++t.args0.map encI))] 7 [.b (lenIs 1 ([[(.J t.a)]])),.b true,.b (Nat.ble (1+(t.args0.map encI).length) 1000000000)] [] [.au,.au,.au,.au,.au] [3,25,26] [6] hS hE ⟨rfl,rfl,by simp; omega,trivial⟩ fun a w hS=>?_
   refine hK8 _ _ ?_
   refine PX.G0 [(.e 26 (.J 1))] [] 7 [] [] [.au,.au] [3,25,26] [6] hS hE trivial fun a w hS=>?_
   show Code.rounds _ _ _ 2 _ _
   rw [rounds_succ]
   refine PX.G [(.e 27 (.sc (.bool true)))] [] 7 [] [] [.au] [3,25,26,27] [6] hS hE trivial fun a w hS=>?_
   refine wp_seq_k fun K10 hK10=>?_
   refine PX.cond_s true hS (by kernel_rfl) (fun h11=>?_) (fun h11=>nomatch h11)
   refine wp_skip ?_
   refine hK10 _ _ ?_
   refine wp_seq_k fun K12 hK12=>?_
   refine wp_block ?_
   refine PX.G [(.e 5 (.ptr 7 0))] [(7,.box 57 [(.J t.b1),(.imm 1 (t.args1.map encI))])] 8 [.q (1=((1:Nat):Int))] [] [.ix 1 [],.au,.au] [3,5,25,26] [6,7] hS hE ⟨rfl,trivial⟩ fun a w hS=>?_
   refine PX.G [(.e 31 (.sc (.bool (decide (0≤t.b1)))))] [] 8 [] [] [.au,.au,.au] [3,5,25,26,31] [6,7] hS hE trivial fun a w hS=>?_
   refine PX.cond_s (decide (0≤t.b1)) hS (by kernel_rfl) (fun h13=>?_) (fun h13=>?_)
   ·skip
    refine PX.G0 [(.e 3 (.own 8 1 ((([[(.J t.a)]]++t.args0.map encI):List (List PX.PV)).length+(t.args1.map encI).length)))] [(8,.row 3 1 true (([[(.J t.a)]]++t.args0.map encI)++t.args1.map encI))] 9 [.b (lenIs (1+(t.args0.map encI).length) ([[(.J t.a)]]++t.args0.map encI)),.b true,.b (Nat.ble ((([[(.J t.a)]]++t.args0.map encI):List (List PX.PV)).length+(t.args1.map encI).length) 1000000000)] [] [.au,.au,.au,.au,.au] [3,25,26] [8] hS hE ⟨by simp [PX.lenIs] <;> omega,rfl,by simp; omega,trivial⟩ fun a w hS=>?_
    refine hK12 _ _ ?_
    refine PX.G0 [(.e 26 (.J 2))] [] 9 [] [] [.au,.au] [3,25,26] [8] hS hE trivial fun a w hS=>?_
    show Code.rounds _ _ _ 1 _ _
    rw [rounds_succ]
    refine PX.G [(.e 27 (.sc (.bool false)))] [] 9 [] [] [.au] [3,25,26,27] [8] hS hE trivial fun a w hS=>?_
    refine wp_seq_k fun K14 hK14=>?_
    refine PX.cond_s false hS (by kernel_rfl) (fun h15=>nomatch h15) (fun h15=>?_)
    refine wp_exit ?_
    refine hK5 _ _ ?_
    refine PX.G [(.e 2 (.own 8 1 ((([[(.J t.a)]]++t.args0.map encI):List (List PX.PV)).length+(t.args1.map encI).length)))] [] 9 [] [] [.au,.au] [2] [8] hS hE trivial fun a w hS=>?_
    replace hS:=PX.fz 8 [(.e 2 (.imm 1 (([[(.J t.a)]]++t.args0.map encI)++t.args1.map encI)))] [] [2] [] [.b (PX.lenIs ((([[(.J t.a)]]++t.args0.map encI):List (List PX.PV)).length+(t.args1.map encI).length) (([[(.J t.a)]]++t.args0.map encI)++t.args1.map encI))] hS ⟨(by simp [PX.lenIs] <;> omega),trivial⟩
    refine wp_ret ?_
    try simp only [Exit.then,Exit.inBlock,Nat.reduceEqDiff,↓reduceIte]
    rw [show (.imm 1 ((termU t).map encI))=((.imm 1 (([[(.J t.a)]]++t.args0.map encI)++t.args1.map encI)):PX.PV) from by simp_all [termU,encI] <;> first | omega | (intro hq; exfalso; omega)]
    exact PX.ret_s hS hE (by kernel_rfl) (by kernel_rfl) (by kernel_rfl) (.inl rfl)
   ·skip
    refine wp_skip ?_
    refine hK12 _ _ ?_
    refine PX.G0 [(.e 26 (.J 2))] [] 8 [] [] [.au,.au] [3,25,26] [6] hS hE trivial fun a w hS=>?_
    show Code.rounds _ _ _ 1 _ _
    rw [rounds_succ]
    refine PX.G [(.e 27 (.sc (.bool false)))] [] 8 [] [] [.au] [3,25,26,27] [6] hS hE trivial fun a w hS=>?_
    refine wp_seq_k fun K16 hK16=>?_
    refine PX.cond_s false hS (by kernel_rfl) (fun h17=>nomatch h17) (fun h17=>?_)
    refine wp_exit ?_
    refine hK5 _ _ ?_
    refine PX.G [(.e 2 (.own 6 1 (1+(t.args0.map encI).length)))] [] 8 [] [] [.au,.au] [2] [6] hS hE trivial fun a w hS=>?_
    replace hS:=PX.fz 6 [(.e 2 (.imm 1 ([[(.J t.a)]]++t.args0.map encI)))] [] [2] [] [.b (PX.lenIs (1+(t.args0.map encI).length) ([[(.J t.a)]]++t.args0.map encI))] hS ⟨(by simp [PX.lenIs] <;> omega),trivial⟩
    refine wp_ret ?_
    try simp only [Exit.then,Exit.inBlock,Nat.reduceEqDiff,↓reduceIte]
    rw [show (.imm 1 ((termU t).map encI))=((.imm 1 ([[(.J t.a)]]++t.args0.map encI)):PX.PV) from by simp_all [termU,encI] <;> first | omega | (intro hq; exfalso; omega)]
    exact PX.ret_s hS hE (by kernel_rfl) (by kernel_rfl) (by kernel_rfl) (.inl rfl)
  ·skip
   refine wp_skip ?_
   refine hK8 _ _ ?_
   refine PX.G0 [(.e 26 (.J 1))] [] 6 [] [] [.au,.au] [3,25,26] [4] hS hE trivial fun a w hS=>?_
   show Code.rounds _ _ _ 2 _ _
   rw [rounds_succ]
   refine PX.G [(.e 27 (.sc (.bool true)))] [] 6 [] [] [.au] [3,25,26,27] [4] hS hE trivial fun a w hS=>?_
   refine wp_seq_k fun K18 hK18=>?_
   refine PX.cond_s true hS (by kernel_rfl) (fun h19=>?_) (fun h19=>nomatch h19)
   refine wp_skip ?_
   refine hK18 _ _ ?_
   refine wp_seq_k fun K20 hK20=>?_
   refine wp_block ?_
   refine PX.G [(.e 5 (.ptr 6 0))] [(6,.box 57 [(.J t.b1),(.imm 1 (t.args1.map encI))])] 7 [.q (1=((1:Nat):Int))] [] [.ix 1 [],.au,.au] [3,5,25,26] [4,6] hS hE ⟨rfl,trivial⟩ fun a w hS=>?_
   refine PX.G [(.e 31 (.sc (.bool (decide (0≤t.b1)))))] [] 7 [] [] [.au,.au,.au] [3,5,25,26,31] [4,6] hS hE trivial fun a w hS=>?_
   refine PX.cond_s (decide (0≤t.b1)) hS (by kernel_rfl) (fun h21=>?_) (fun h21=>?_)
   ·skip
    refine PX.G0 [(.e 3 (.own 7 1 (1+(t.args1.map encI).length)))] [(7,.row 3 1 true ([[(.J t.a)]]++t.args1.map encI))] 8 [.b (lenIs 1 ([[(.J t.a)]])),.b true,.b (Nat.ble (1+(t.args1.map encI).length) 1000000000)] [] [.au,.au,.au,.au,.au] [3,25,26] [7] hS hE ⟨rfl,rfl,by simp; omega,trivial⟩ fun a w hS=>?_
    refine hK20 _ _ ?_
    refine PX.G0 [(.e 26 (.J 2))] [] 8 [] [] [.au,.au] [3,25,26] [7] hS hE trivial fun a w hS=>?_
    show Code.rounds _ _ _ 1 _ _
    rw [rounds_succ]
    refine PX.G [(.e 27 (.sc (.bool false)))] [] 8 [] [] [.au] [3,25,26,27] [7] hS hE trivial fun a w hS=>?_
    refine wp_seq_k fun K22 hK22=>?_
    refine PX.cond_s false hS (by kernel_rfl) (fun h23=>nomatch h23) (fun h23=>?_)
    refine wp_exit ?_
    refine hK5 _ _ ?_
    refine PX.G [(.e 2 (.own 7 1 (1+(t.args1.map encI).length)))] [] 8 [] [] [.au,.au] [2] [7] hS hE trivial fun a w hS=>?_
    replace hS:=PX.fz 7 [(.e 2 (.imm 1 ([[(.J t.a)]]++t.args1.map encI)))] [] [2] [] [.b (PX.lenIs (1+(t.args1.map encI).length) ([[(.J t.a)]]++t.args1.map encI))] hS ⟨(by simp [PX.lenIs] <;> omega),trivial⟩
    refine wp_ret ?_
    try simp only [Exit.then,Exit.inBlock,Nat.reduceEqDiff,↓reduceIte]
    rw [show (.imm 1 ((termU t).map encI))=((.imm 1 ([[(.J t.a)]]++t.args1.map encI)):PX.PV) from by simp_all [termU,encI] <;> first | omega | (intro hq; exfalso; omega)]
    exact PX.ret_s hS hE (by kernel_rfl) (by kernel_rfl) (by kernel_rfl) (.inl rfl)
   ·skip
    refine wp_skip ?_
    refine hK20 _ _ ?_
    refine PX.G0 [(.e 26 (.J 2))] [] 7 [] [] [.au,.au] [3,25,26] [4] hS hE trivial fun a w hS=>?_
    show Code.rounds _ _ _ 1 _ _
    rw [rounds_succ]
    refine PX.G [(.e 27 (.sc (.bool false)))] [] 7 [] [] [.au] [3,25,26,27] [4] hS hE trivial fun a w hS=>?_
    refine wp_seq_k fun K24 hK24=>?_
    refine PX.cond_s false hS (by kernel_rfl) (fun h25=>nomatch h25) (fun h25=>?_)
    refine wp_exit ?_
    refine hK5 _ _ ?_
    refine PX.G [(.e 2 (.own 4 1 1))] [] 7 [] [] [.au,.au] [2] [4] hS hE trivial fun a w hS=>?_
    replace hS:=PX.fz 4 [(.e 2 (.imm 1 ([[(.J t.a)]])))] [] [2] [] [.b (PX.lenIs 1 ([[(.J t.a)]]))] hS ⟨(by simp [PX.lenIs] <;> omega),trivial⟩
    refine wp_ret ?_
    try simp only [Exit.then,Exit.inBlock,Nat.reduceEqDiff,↓reduceIte]
    rw [show (.imm 1 ((termU t).map encI))=((.imm 1 ([[(.J t.a)]])):PX.PV) from by simp_all [termU,encI] <;> first | omega | (intro hq; exfalso; omega)]
    exact PX.ret_s hS hE (by kernel_rfl) (by kernel_rfl) (by kernel_rfl) (.inl rfl)
 ·skip
  refine PX.G [(.e 8 (.sc (.bool (t.kind==4))))] [] 3 [] [] [.au,.au] [1,3,7,8] [1,2] hS hE trivial fun a w hS=>?_
  refine PX.cond_s (t.kind==4) hS (by kernel_rfl) (fun h26=>?_) (fun h26=>?_)
  ·skip
   refine wp_skip ?_
   refine hK2 _ _ ?_
   refine PX.cond_s (t.kind==4) hS (by kernel_rfl) (fun h27=>?_) (fun h27=>nomatch (h26.symm.trans h27))
   refine PX.G0 [(.e 3 (.own 4 1 1))] [(4,.row 3 1 true ([[(.J t.a)]]))] 5 [.b (lenIs 0 ([])),.b (lenIs 1 ([[(.J t.a)]])),.b (Nat.ble (1) 1000000000)] [] [.au,.au,.au,.au,.au,.au] [1,3] [1,4] hS hE ⟨rfl,rfl,rfl,trivial⟩ fun a w hS=>?_
   refine hK1 _ _ ?_
   refine wp_seq_k fun K28 hK28=>?_
   refine PX.G [(.e 25 (.agg [(.J t.b0),(.imm 1 (t.args0.map encI)),(.J t.b1),(.imm 1 (t.args1.map encI))])),(.e 26 (.J 0))] [] 5 [] [] [.au,.au,.au] [3,25,26] [4] hS hE trivial fun a w hS=>?_
   refine wp_block ?_
   refine wp_loop_rounds 3 ?_
   rw [rounds_succ]
   refine PX.G [(.e 27 (.sc (.bool true)))] [] 5 [] [] [.au] [3,25,26,27] [4] hS hE trivial fun a w hS=>?_
   refine wp_seq_k fun K29 hK29=>?_
   refine PX.cond_s true hS (by kernel_rfl) (fun h30=>?_) (fun h30=>nomatch h30)
   refine wp_skip ?_
   refine hK29 _ _ ?_
   refine wp_seq_k fun K31 hK31=>?_
   refine wp_block ?_
   refine PX.G [(.e 5 (.ptr 5 0))] [(5,.box 57 [(.J t.b0),(.imm 1 (t.args0.map encI))])] 6 [.q (0=((0:Nat):Int))] [] [.ix 0 [],.au,.au] [3,5,25,26] [4,5] hS hE ⟨rfl,trivial⟩ fun a w hS=>?_
   refine PX.G [(.e 31 (.sc (.bool (decide (0≤t.b0)))))] [] 6 [] [] [.au,.au,.au] [3,5,25,26,31] [4,5] hS hE trivial fun a w hS=>?_
   refine PX.cond_s (decide (0≤t.b0)) hS (by kernel_rfl) (fun h32=>?_) (fun h32=>?_)
   ·skip
    refine PX.G0 [(.e 3 (.own 6 1 (1+(t.args0.map encI).length)))] [(6,.row 3 1 true ([[(.J t.a)]]++t.args0.map encI))] 7 [.b (lenIs 1 ([[(.J t.a)]])),.b true,.b (Nat.ble (1+(t.args0.map encI).length) 1000000000)] [] [.au,.au,.au,.au,.au] [3,25,26] [6] hS hE ⟨rfl,rfl,by simp; omega,trivial⟩ fun a w hS=>?_
    refine hK31 _ _ ?_
    refine PX.G0 [(.e 26 (.J 1))] [] 7 [] [] [.au,.au] [3,25,26] [6] hS hE trivial fun a w hS=>?_
    show Code.rounds _ _ _ 2 _ _
    rw [rounds_succ]
    refine PX.G [(.e 27 (.sc (.bool true)))] [] 7 [] [] [.au] [3,25,26,27] [6] hS hE trivial fun a w hS=>?_
    refine wp_seq_k fun K33 hK33=>?_
    refine PX.cond_s true hS (by kernel_rfl) (fun h34=>?_) (fun h34=>nomatch h34)
    refine wp_skip ?_
    refine hK33 _ _ ?_
    refine wp_seq_k fun K35 hK35=>?_
    refine wp_block ?_
    refine PX.G [(.e 5 (.ptr 7 0))] [(7,.box 57 [(.J t.b1),(.imm 1 (t.args1.map encI))])] 8 [.q (1=((1:Nat):Int))] [] [.ix 1 [],.au,.au] [3,5,25,26] [6,7] hS hE ⟨rfl,trivial⟩ fun a w hS=>?_
    refine PX.G [(.e 31 (.sc (.bool (decide (0≤t.b1)))))] [] 8 [] [] [.au,.au,.au] [3,5,25,26,31] [6,7] hS hE trivial fun a w hS=>?_
    refine PX.cond_s (decide (0≤t.b1)) hS (by kernel_rfl) (fun h36=>?_) (fun h36=>?_)
    ·skip
     refine PX.G0 [(.e 3 (.own 8 1 ((([[(.J t.a)]]++t.args0.map encI):List (List PX.PV)).length+(t.args1.map encI).length)))] [(8,.row 3 1 true (([[(.J t.a)]]++t.args0.map encI)++t.args1.map encI))] 9 [.b (lenIs (1+(t.args0.map encI).length) ([[(.J t.a)]]++t.args0.map encI)),.b true,.b (Nat.ble ((([[(.J t.a)]]++t.args0.map encI):List (List PX.PV)).length+(t.args1.map encI).length) 1000000000)] [] [.au,.au,.au,.au,.au] [3,25,26] [8] hS hE ⟨by simp [PX.lenIs] <;> omega,rfl,by simp; omega,trivial⟩ fun a w hS=>?_
     refine hK35 _ _ ?_
     refine PX.G0 [(.e 26 (.J 2))] [] 9 [] [] [.au,.au] [3,25,26] [8] hS hE trivial fun a w hS=>?_
     show Code.rounds _ _ _ 1 _ _
     rw [rounds_succ]
     refine PX.G [(.e 27 (.sc (.bool false)))] [] 9 [] [] [.au] [3,25,26,27] [8] hS hE trivial fun a w hS=>?_
     refine wp_seq_k fun K37 hK37=>?_
     refine PX.cond_s false hS (by kernel_rfl) (fun h38=>nomatch h38) (fun h38=>?_)
     refine wp_exit ?_
     refine hK28 _ _ ?_
     refine PX.G [(.e 2 (.own 8 1 ((([[(.J t.a)]]++t.args0.map encI):List (List PX.PV)).length+(t.args1.map encI).length)))] [] 9 [] [] [.au,.au] [2] [8] hS hE trivial fun a w hS=>?_
     replace hS:=PX.fz 8 [(.e 2 (.imm 1 (([[(.J t.a)]]++t.args0.map encI)++t.args1.map encI)))] [] [2] [] [.b (PX.lenIs ((([[(.J t.a)]]++t.args0.map encI):List (List PX.PV)).length+(t.args1.map encI).length) (([[(.J t.a)]]++t.args0.map encI)++t.args1.map encI))] hS ⟨(by simp [PX.lenIs] <;> omega),trivial⟩
     refine wp_ret ?_
     try simp only [Exit.then,Exit.inBlock,Nat.reduceEqDiff,↓reduceIte]
     rw [show (.imm 1 ((termU t).map encI))=((.imm 1 (([[(.J t.a)]]++t.args0.map encI)++t.args1.map encI)):PX.PV) from by simp_all [termU,encI] <;> first | omega | (intro hq; exfalso; omega)]
     exact PX.ret_s hS hE (by kernel_rfl) (by kernel_rfl) (by kernel_rfl) (.inl rfl)
    ·skip
     refine wp_skip ?_
     refine hK35 _ _ ?_
     refine PX.G0 [(.e 26 (.J 2))] [] 8 [] [] [.au,.au] [3,25,26] [6] hS hE trivial fun a w hS=>?_
     show Code.rounds _ _ _ 1 _ _
     rw [rounds_succ]
     refine PX.G [(.e 27 (.sc (.bool false)))] [] 8 [] [] [.au] [3,25,26,27] [6] hS hE trivial fun a w hS=>?_
     refine wp_seq_k fun K39 hK39=>?_
     refine PX.cond_s false hS (by kernel_rfl) (fun h40=>nomatch h40) (fun h40=>?_)
     refine wp_exit ?_
     refine hK28 _ _ ?_
     refine PX.G [(.e 2 (.own 6 1 (1+(t.args0.map encI).length)))] [] 8 [] [] [.au,.au] [2] [6] hS hE trivial fun a w hS=>?_
     replace hS:=PX.fz 6 [(.e 2 (.imm 1 ([[(.J t.a)]]++t.args0.map encI)))] [] [2] [] [.b (PX.lenIs (1+(t.args0.map encI).length) ([[(.J t.a)]]++t.args0.map encI))] hS ⟨(by simp [PX.lenIs] <;> omega),trivial⟩
     refine wp_ret ?_
     try simp only [Exit.then,Exit.inBlock,Nat.reduceEqDiff,↓reduceIte]
     rw [show (.imm 1 ((termU t).map encI))=((.imm 1 ([[(.J t.a)]]++t.args0.map encI)):PX.PV) from by simp_all [termU,encI] <;> first | omega | (intro hq; exfalso; omega)]
     exact PX.ret_s hS hE (by kernel_rfl) (by kernel_rfl) (by kernel_rfl) (.inl rfl)
   ·skip
    refine wp_skip ?_
    refine hK31 _ _ ?_
    refine PX.G0 [(.e 26 (.J 1))] [] 6 [] [] [.au,.au] [3,25,26] [4] hS hE trivial fun a w hS=>?_
    show Code.rounds _ _ _ 2 _ _
    rw [rounds_succ]
    refine PX.G [(.e 27 (.sc (.bool true)))] [] 6 [] [] [.au] [3,25,26,27] [4] hS hE trivial fun a w hS=>?_
    refine wp_seq_k fun K41 hK41=>?_
    refine PX.cond_s true hS (by kernel_rfl) (fun h42=>?_) (fun h42=>nomatch h42)
    refine wp_skip ?_
    refine hK41 _ _ ?_
    refine wp_seq_k fun K43 hK43=>?_
    refine wp_block ?_
    refine PX.G [(.e 5 (.ptr 6 0))] [(6,.box 57 [(.J t.b1),(.imm 1 (t.args1.map encI))])] 7 [.q (1=((1:Nat):Int))] [] [.ix 1 [],.au,.au] [3,5,25,26] [4,6] hS hE ⟨rfl,trivial⟩ fun a w hS=>?_
    refine PX.G [(.e 31 (.sc (.bool (decide (0≤t.b1)))))] [] 7 [] [] [.au,.au,.au] [3,5,25,26,31] [4,6] hS hE trivial fun a w hS=>?_
    refine PX.cond_s (decide (0≤t.b1)) hS (by kernel_rfl) (fun h44=>?_) (fun h44=>?_)
    ·skip
     refine PX.G0 [(.e 3 (.own 7 1 (1+(t.args1.map encI).length)))] [(7,.row 3 1 true ([[(.J t.a)]]++t.args1.map encI))] 8 [.b (lenIs 1 ([[(.J t.a)]])),.b true,.b (Nat.ble (1+(t.args1.map encI).length) 1000000000)] [] [.au,.au,.au,.au,.au] [3,25,26] [7] hS hE ⟨rfl,rfl,by simp; omega,trivial⟩ fun a w hS=>?_
     refine hK43 _ _ ?_
     refine PX.G0 [(.e 26 (.J 2))] [] 8 [] [] [.au,.au] [3,25,26] [7] hS hE trivial fun a w hS=>?_
     show Code.rounds _ _ _ 1 _ _
     rw [rounds_succ]
     refine PX.G [(.e 27 (.sc (.bool false)))] [] 8 [] [] [.au] [3,25,26,27] [7] hS hE trivial fun a w hS=>?_
     refine wp_seq_k fun K45 hK45=>?_
     refine PX.cond_s false hS (by kernel_rfl) (fun h46=>nomatch h46) (fun h46=>?_)
     refine wp_exit ?_
     refine hK28 _ _ ?_
     refine PX.G [(.e 2 (.own 7 1 (1+(t.args1.map encI).length)))] [] 8 [] [] [.au,.au] [2] [7] hS hE trivial fun a w hS=>?_
     replace hS:=PX.fz 7 [(.e 2 (.imm 1 ([[(.J t.a)]]++t.args1.map encI)))] [] [2] [] [.b (PX.lenIs (1+(t.args1.map encI).length) ([[(.J t.a)]]++t.args1.map encI))] hS ⟨(by simp [PX.lenIs] <;> omega),trivial⟩
     refine wp_ret ?_
     try simp only [Exit.then,Exit.inBlock,Nat.reduceEqDiff,↓reduceIte]
     rw [show (.imm 1 ((termU t).map encI))=((.imm 1 ([[(.J t.a)]]++t.args1.map encI)):PX.PV) from by simp_all [termU,encI] <;> first | omega | (intro hq; exfalso; omega)]
     exact PX.ret_s hS hE (by kernel_rfl) (by kernel_rfl) (by kernel_rfl) (.inl rfl)
    ·skip
     refine wp_skip ?_
     refine hK43 _ _ ?_
     refine PX.G0 [(.e 26 (.J 2))] [] 7 [] [] [.au,.au] [3,25,26] [4] hS hE trivial fun a w hS=>?_
     show Code.rounds _ _ _ 1 _ _
     rw [rounds_succ]
     refine PX.G [(.e 27 (.sc (.bool false)))] [] 7 [] [] [.au] [3,25,26,27] [4] hS hE trivial fun a w hS=>?_
     refine wp_seq_k fun K47 hK47=>?_
     refine PX.cond_s false hS (by kernel_rfl) (fun h48=>nomatch h48) (fun h48=>?_)
     refine wp_exit ?_
     refine hK28 _ _ ?_
     refine PX.G [(.e 2 (.own 4 1 1))] [] 7 [] [] [.au,.au] [2] [4] hS hE trivial fun a w hS=>?_
     replace hS:=PX.fz 4 [(.e 2 (.imm 1 ([[(.J t.a)]])))] [] [2] [] [.b (PX.lenIs 1 ([[(.J t.a)]]))] hS ⟨(by simp [PX.lenIs] <;> omega),trivial⟩
     refine wp_ret ?_
     try simp only [Exit.then,Exit.inBlock,Nat.reduceEqDiff,↓reduceIte]
     rw [show (.imm 1 ((termU t).map encI))=((.imm 1 ([[(.J t.a)]])):PX.PV) from by simp_all [termU,encI] <;> first | omega | (intro hq; exfalso; omega)]
     exact PX.ret_s hS hE (by kernel_rfl) (by kernel_rfl) (by kernel_rfl) (.inl rfl)
  ·skip
   refine PX.G0 [(.e 8 (.sc (.bool (t.kind==5))))] [] 3 [] [] [.au,.au] [1,3,7,8] [1,2] hS hE trivial fun a w hS=>?_
   refine hK2 _ _ ?_
   refine PX.cond_s (t.kind==5) hS (by kernel_rfl) (fun h49=>?_) (fun h49=>?_)
   ·skip
    refine PX.G0 [(.e 3 (.own 4 1 1))] [(4,.row 3 1 true ([[(.J t.a)]]))] 5 [.b (lenIs 0 ([])),.b (lenIs 1 ([[(.J t.a)]])),.b (Nat.ble (1) 1000000000)] [] [.au,.au,.au,.au,.au,.au] [1,3] [1,4] hS hE ⟨rfl,rfl,rfl,trivial⟩ fun a w hS=>?_
    refine hK1 _ _ ?_
    refine wp_seq_k fun K50 hK50=>?_
    refine PX.G [(.e 25 (.agg [(.J t.b0),(.imm 1 (t.args0.map encI)),(.J t.b1),(.imm 1 (t.args1.map encI))])),(.e 26 (.J 0))] [] 5 [] [] [.au,.au,.au] [3,25,26] [4] hS hE trivial fun a w hS=>?_
    refine wp_block ?_
    refine wp_loop_rounds 3 ?_
    rw [rounds_succ]
    refine PX.G [(.e 27 (.sc (.bool true)))] [] 5 [] [] [.au] [3,25,26,27] [4] hS hE trivial fun a w hS=>?_
    refine wp_seq_k fun K51 hK51=>?_
    refine PX.cond_s true hS (by kernel_rfl) (fun h52=>?_) (fun h52=>nomatch h52)
    refine wp_skip ?_
    refine hK51 _ _ ?_
    refine wp_seq_k fun K53 hK53=>?_
    refine wp_block ?_
    refine PX.G [(.e 5 (.ptr 5 0))] [(5,.box 57 [(.J t.b0),(.imm 1 (t.args0.map encI))])] 6 [.q (0=((0:Nat):Int))] [] [.ix 0 [],.au,.au] [3,5,25,26] [4,5] hS hE ⟨rfl,trivial⟩ fun a w hS=>?_
    refine PX.G [(.e 31 (.sc (.bool (decide (0≤t.b0)))))] [] 6 [] [] [.au,.au,.au] [3,5,25,26,31] [4,5] hS hE trivial fun a w hS=>?_
    refine PX.cond_s (decide (0≤t.b0)) hS (by kernel_rfl) (fun h54=>?_) (fun h54=>?_)
    ·skip
     refine PX.G0 [(.e 3 (.own 6 1 (1+(t.args0.map encI).length)))] [(6,.row 3 1 true ([[(.J t.a)]]++t.args0.map encI))] 7 [.b (lenIs 1 ([[(.J t.a)]])),.b true,.b (Nat.ble (1+(t.args0.map encI).length) 1000000000)] [] [.au,.au,.au,.au,.au] [3,25,26] [6] hS hE ⟨rfl,rfl,by simp; omega,trivial⟩ fun a w hS=>?_
     refine hK53 _ _ ?_
     refine PX.G0 [(.e 26 (.J 1))] [] 7 [] [] [.au,.au] [3,25,26] [6] hS hE trivial fun a w hS=>?_
     show Code.rounds _ _ _ 2 _ _
     rw [rounds_succ]
     refine PX.G [(.e 27 (.sc (.bool true)))] [] 7 [] [] [.au] [3,25,26,27] [6] hS hE trivial fun a w hS=>?_
     refine wp_seq_k fun K55 hK55=>?_
     refine PX.cond_s true hS (by kernel_rfl) (fun h56=>?_) (fun h56=>nomatch h56)
     refine wp_skip ?_
     refine hK55 _ _ ?_
     refine wp_seq_k fun K57 hK57=>?_
     refine wp_block ?_
     refine PX.G [(.e 5 (.ptr 7 0))] [(7,.box 57 [(.J t.b1),(.imm 1 (t.args1.map encI))])] 8 [.q (1=((1:Nat):Int))] [] [.ix 1 [],.au,.au] [3,5,25,26] [6,7] hS hE ⟨rfl,trivial⟩ fun a w hS=>?_
     refine PX.G [(.e 31 (.sc (.bool (decide (0≤t.b1)))))] [] 8 [] [] [.au,.au,.au] [3,5,25,26,31] [6,7] hS hE trivial fun a w hS=>?_
     refine PX.cond_s (decide (0≤t.b1)) hS (by kernel_rfl) (fun h58=>?_) (fun h58=>?_)
     ·skip
      refine PX.G0 [(.e 3 (.own 8 1 ((([[(.J t.a)]]++t.args0.map encI):List (List PX.PV)).length+(t.args1.map encI).length)))] [(8,.row 3 1 true (([[(.J t.a)]]++t.args0.map encI)++t.args1.map encI))] 9 [.b (lenIs (1+(t.args0.map encI).length) ([[(.J t.a)]]++t.args0.map encI)),.b true,.b (Nat.ble ((([[(.J t.a)]]++t.args0.map encI):List (List PX.PV)).length+(t.args1.map encI).length) 1000000000)] [] [.au,.au,.au,.au,.au] [3,25,26] [8] hS hE ⟨by simp [PX.lenIs] <;> omega,rfl,by simp; omega,trivial⟩ fun a w hS=>?_
      refine hK57 _ _ ?_
      refine PX.G0 [(.e 26 (.J 2))] [] 9 [] [] [.au,.au] [3,25,26] [8] hS hE trivial fun a w hS=>?_
      show Code.rounds _ _ _ 1 _ _
      rw [rounds_succ]
      refine PX.G [(.e 27 (.sc (.bool false)))] [] 9 [] [] [.au] [3,25,26,27] [8] hS hE trivial fun a w hS=>?_
      refine wp_seq_k fun K59 hK59=>?_
      refine PX.cond_s false hS (by kernel_rfl) (fun h60=>nomatch h60) (fun h60=>?_)
      refine wp_exit ?_
      refine hK50 _ _ ?_
      refine PX.G [(.e 2 (.own 8 1 ((([[(.J t.a)]]++t.args0.map encI):List (List PX.PV)).length+(t.args1.map encI).length)))] [] 9 [] [] [.au,.au] [2] [8] hS hE trivial fun a w hS=>?_
      replace hS:=PX.fz 8 [(.e 2 (.imm 1 (([[(.J t.a)]]++t.args0.map encI)++t.args1.map encI)))] [] [2] [] [.b (PX.lenIs ((([[(.J t.a)]]++t.args0.map encI):List (List PX.PV)).length+(t.args1.map encI).length) (([[(.J t.a)]]++t.args0.map encI)++t.args1.map encI))] hS ⟨(by simp [PX.lenIs] <;> omega),trivial⟩
      refine wp_ret ?_
      try simp only [Exit.then,Exit.inBlock,Nat.reduceEqDiff,↓reduceIte]
      rw [show (.imm 1 ((termU t).map encI))=((.imm 1 (([[(.J t.a)]]++t.args0.map encI)++t.args1.map encI)):PX.PV) from by simp_all [termU,encI] <;> first | omega | (intro hq; exfalso; omega)]
      exact PX.ret_s hS hE (by kernel_rfl) (by kernel_rfl) (by kernel_rfl) (.inl rfl)
     ·skip
      refine wp_skip ?_
      refine hK57 _ _ ?_
      refine PX.G0 [(.e 26 (.J 2))] [] 8 [] [] [.au,.au] [3,25,26] [6] hS hE trivial fun a w hS=>?_
      show Code.rounds _ _ _ 1 _ _
      rw [rounds_succ]
      refine PX.G [(.e 27 (.sc (.bool false)))] [] 8 [] [] [.au] [3,25,26,27] [6] hS hE trivial fun a w hS=>?_
      refine wp_seq_k fun K61 hK61=>?_
      refine PX.cond_s false hS (by kernel_rfl) (fun h62=>nomatch h62) (fun h62=>?_)
      refine wp_exit ?_
      refine hK50 _ _ ?_
      refine PX.G [(.e 2 (.own 6 1 (1+(t.args0.map encI).length)))] [] 8 [] [] [.au,.au] [2] [6] hS hE trivial fun a w hS=>?_
      replace hS:=PX.fz 6 [(.e 2 (.imm 1 ([[(.J t.a)]]++t.args0.map encI)))] [] [2] [] [.b (PX.lenIs (1+(t.args0.map encI).length) ([[(.J t.a)]]++t.args0.map encI))] hS ⟨(by simp [PX.lenIs] <;> omega),trivial⟩
      refine wp_ret ?_
      try simp only [Exit.then,Exit.inBlock,Nat.reduceEqDiff,↓reduceIte]
      rw [show (.imm 1 ((termU t).map encI))=((.imm 1 ([[(.J t.a)]]++t.args0.map encI)):PX.PV) from by simp_all [termU,encI] <;> first | omega | (intro hq; exfalso; omega)]
      exact PX.ret_s hS hE (by kernel_rfl) (by kernel_rfl) (by kernel_rfl) (.inl rfl)
    ·skip
     refine wp_skip ?_
     refine hK53 _ _ ?_
     refine PX.G0 [(.e 26 (.J 1))] [] 6 [] [] [.au,.au] [3,25,26] [4] hS hE trivial fun a w hS=>?_
     show Code.rounds _ _ _ 2 _ _
     rw [rounds_succ]
     refine PX.G [(.e 27 (.sc (.bool true)))] [] 6 [] [] [.au] [3,25,26,27] [4] hS hE trivial fun a w hS=>?_
     refine wp_seq_k fun K63 hK63=>?_
     refine PX.cond_s true hS (by kernel_rfl) (fun h64=>?_) (fun h64=>nomatch h64)
     refine wp_skip ?_
     refine hK63 _ _ ?_
     refine wp_seq_k fun K65 hK65=>?_
     refine wp_block ?_
     refine PX.G [(.e 5 (.ptr 6 0))] [(6,.box 57 [(.J t.b1),(.imm 1 (t.args1.map encI))])] 7 [.q (1=((1:Nat):Int))] [] [.ix 1 [],.au,.au] [3,5,25,26] [4,6] hS hE ⟨rfl,trivial⟩ fun a w hS=>?_
     refine PX.G [(.e 31 (.sc (.bool (decide (0≤t.b1)))))] [] 7 [] [] [.au,.au,.au] [3,5,25,26,31] [4,6] hS hE trivial fun a w hS=>?_
     refine PX.cond_s (decide (0≤t.b1)) hS (by kernel_rfl) (fun h66=>?_) (fun h66=>?_)
     ·skip
      refine PX.G0 [(.e 3 (.own 7 1 (1+(t.args1.map encI).length)))] [(7,.row 3 1 true ([[(.J t.a)]]++t.args1.map encI))] 8 [.b (lenIs 1 ([[(.J t.a)]])),.b true,.b (Nat.ble (1+(t.args1.map encI).length) 1000000000)] [] [.au,.au,.au,.au,.au] [3,25,26] [7] hS hE ⟨rfl,rfl,by simp; omega,trivial⟩ fun a w hS=>?_
      refine hK65 _ _ ?_
      refine PX.G0 [(.e 26 (.J 2))] [] 8 [] [] [.au,.au] [3,25,26] [7] hS hE trivial fun a w hS=>?_
      show Code.rounds _ _ _ 1 _ _
      rw [rounds_succ]
      refine PX.G [(.e 27 (.sc (.bool false)))] [] 8 [] [] [.au] [3,25,26,27] [7] hS hE trivial fun a w hS=>?_
      refine wp_seq_k fun K67 hK67=>?_
      refine PX.cond_s false hS (by kernel_rfl) (fun h68=>nomatch h68) (fun h68=>?_)
      refine wp_exit ?_
      refine hK50 _ _ ?_
      refine PX.G [(.e 2 (.own 7 1 (1+(t.args1.map encI).length)))] [] 8 [] [] [.au,.au] [2] [7] hS hE trivial fun a w hS=>?_
      replace hS:=PX.fz 7 [(.e 2 (.imm 1 ([[(.J t.a)]]++t.args1.map encI)))] [] [2] [] [.b (PX.lenIs (1+(t.args1.map encI).length) ([[(.J t.a)]]++t.args1.map encI))] hS ⟨(by simp [PX.lenIs] <;> omega),trivial⟩
      refine wp_ret ?_
      try simp only [Exit.then,Exit.inBlock,Nat.reduceEqDiff,↓reduceIte]
      rw [show (.imm 1 ((termU t).map encI))=((.imm 1 ([[(.J t.a)]]++t.args1.map encI)):PX.PV) from by simp_all [termU,encI] <;> first | omega | (intro hq; exfalso; omega)]
      exact PX.ret_s hS hE (by kernel_rfl) (by kernel_rfl) (by kernel_rfl) (.inl rfl)
     ·skip
      refine wp_skip ?_
      refine hK65 _ _ ?_
      refine PX.G0 [(.e 26 (.J 2))] [] 7 [] [] [.au,.au] [3,25,26] [4] hS hE trivial fun a w hS=>?_
      show Code.rounds _ _ _ 1 _ _
      rw [rounds_succ]
      refine PX.G [(.e 27 (.sc (.bool false)))] [] 7 [] [] [.au] [3,25,26,27] [4] hS hE trivial fun a w hS=>?_
      refine wp_seq_k fun K69 hK69=>?_
      refine PX.cond_s false hS (by kernel_rfl) (fun h70=>nomatch h70) (fun h70=>?_)
      refine wp_exit ?_
      refine hK50 _ _ ?_
      refine PX.G [(.e 2 (.own 4 1 1))] [] 7 [] [] [.au,.au] [2] [4] hS hE trivial fun a w hS=>?_
      replace hS:=PX.fz 4 [(.e 2 (.imm 1 ([[(.J t.a)]])))] [] [2] [] [.b (PX.lenIs 1 ([[(.J t.a)]]))] hS ⟨(by simp [PX.lenIs] <;> omega),trivial⟩
      refine wp_ret ?_
      try simp only [Exit.then,Exit.inBlock,Nat.reduceEqDiff,↓reduceIte]
      rw [show (.imm 1 ((termU t).map encI))=((.imm 1 ([[(.J t.a)]])):PX.PV) from by simp_all [termU,encI] <;> first | omega | (intro hq; exfalso; omega)]
      exact PX.ret_s hS hE (by kernel_rfl) (by kernel_rfl) (by kernel_rfl) (.inl rfl)
   ·skip
    refine wp_seq_k fun K71 hK71=>?_
    refine PX.G [(.e 17 (.sc (.bool (t.kind==3))))] [] 3 [] [] [.au,.au] [1,3,7,17] [1,2] hS hE trivial fun a w hS=>?_
    refine PX.cond_s (t.kind==3) hS (by kernel_rfl) (fun h72=>?_) (fun h72=>?_)
    ·skip
     refine wp_skip ?_
     refine hK71 _ _ ?_
     refine PX.cond_s (t.kind==3) hS (by kernel_rfl) (fun h73=>?_) (fun h73=>nomatch (h72.symm.trans h73))
     refine PX.G0 [(.e 3 (.own 3 1 (0+(t.args.map encI).length)))] [(3,.row 3 1 true (t.args.map encI))] 4 [.b (lenIs 0 ([])),.b true,.b (Nat.ble (0+(t.args.map encI).length) 1000000000)] [] [.au,.au,.au,.au,.au] [1,3] [1,3] hS hE ⟨rfl,rfl,by simp; omega,trivial⟩ fun a w hS=>?_
     refine hK1 _ _ ?_
     refine wp_seq_k fun K74 hK74=>?_
     refine PX.G [(.e 25 (.agg [(.J t.b0),(.imm 1 (t.args0.map encI)),(.J t.b1),(.imm 1 (t.args1.map encI))])),(.e 26 (.J 0))] [] 4 [] [] [.au,.au,.au] [3,25,26] [3] hS hE trivial fun a w hS=>?_
     refine wp_block ?_
     refine wp_loop_rounds 3 ?_
     rw [rounds_succ]
     refine PX.G [(.e 27 (.sc (.bool true)))] [] 4 [] [] [.au] [3,25,26,27] [3] hS hE trivial fun a w hS=>?_
     refine wp_seq_k fun K75 hK75=>?_
     refine PX.cond_s true hS (by kernel_rfl) (fun h76=>?_) (fun h76=>nomatch h76)
     refine wp_skip ?_
     refine hK75 _ _ ?_
     refine wp_seq_k fun K77 hK77=>?_
     refine wp_block ?_
     refine PX.G [(.e 5 (.ptr 4 0))] [(4,.box 57 [(.J t.b0),(.imm 1 (t.args0.map encI))])] 5 [.q (0=((0:Nat):Int))] [] [.ix 0 [],.au,.au] [3,5,25,26] [3,4] hS hE ⟨rfl,trivial⟩ fun a w hS=>?_
     refine PX.G [(.e 31 (.sc (.bool (decide (0≤t.b0)))))] [] 5 [] [] [.au,.au,.au] [3,5,25,26,31] [3,4] hS hE trivial fun a w hS=>?_
     refine PX.cond_s (decide (0≤t.b0)) hS (by kernel_rfl) (fun h78=>?_) (fun h78=>?_)
     ·skip
      refine PX.G0 [(.e 3 (.own 5 1 ((t.args.map encI:List (List PX.PV)).length+(t.args0.map encI).length)))] [(5,.row 3 1 true (t.args.map encI++t.args0.map encI))] 6 [.b (lenIs (0+(t.args.map encI).length) (t.args.map encI)),.b true,.b (Nat.ble ((t.args.map encI:List (List PX.PV)).length+(t.args0.map encI).length) 1000000000)] [] [.au,.au,.au,.au,.au] [3,25,26] [5] hS hE ⟨by simp [PX.lenIs] <;> omega,rfl,by simp; omega,trivial⟩ fun a w hS=>?_
      refine hK77 _ _ ?_
      refine PX.G0 [(.e 26 (.J 1))] [] 6 [] [] [.au,.au] [3,25,26] [5] hS hE trivial fun a w hS=>?_
      show Code.rounds _ _ _ 2 _ _
      rw [rounds_succ]
      refine PX.G [(.e 27 (.sc (.bool true)))] [] 6 [] [] [.au] [3,25,26,27] [5] hS hE trivial fun a w hS=>?_
      refine wp_seq_k fun K79 hK79=>?_
      refine PX.cond_s true hS (by kernel_rfl) (fun h80=>?_) (fun h80=>nomatch h80)
      refine wp_skip ?_
      refine hK79 _ _ ?_
      refine wp_seq_k fun K81 hK81=>?_
      refine wp_block ?_
      refine PX.G [(.e 5 (.ptr 6 0))] [(6,.box 57 [(.J t.b1),(.imm 1 (t.args1.map encI))])] 7 [.q (1=((1:Nat):Int))] [] [.ix 1 [],.au,.au] [3,5,25,26] [5,6] hS hE ⟨rfl,trivial⟩ fun a w hS=>?_
      refine PX.G [(.e 31 (.sc (.bool (decide (0≤t.b1)))))] [] 7 [] [] [.au,.au,.au] [3,5,25,26,31] [5,6] hS hE trivial fun a w hS=>?_
      refine PX.cond_s (decide (0≤t.b1)) hS (by kernel_rfl) (fun h82=>?_) (fun h82=>?_)
      ·skip
       refine PX.G0 [(.e 3 (.own 7 1 (((t.args.map encI++t.args0.map encI):List (List PX.PV)).length+(t.args1.map encI).length)))] [(7,.row 3 1 true ((t.args.map encI++t.args0.map encI)++t.args1.map encI))] 8 [.b (lenIs ((t.args.map encI:List (List PX.PV)).length+(t.args0.map encI).length) (t.args.map encI++t.args0.map encI)),.b true,.b (Nat.ble (((t.args.map encI++t.args0.map encI):List (List PX.PV)).length+(t.args1.map encI).length) 1000000000)] [] [.au,.au,.au,.au,.au] [3,25,26] [7] hS hE ⟨by simp [PX.lenIs] <;> omega,rfl,by simp; omega,trivial⟩ fun a w hS=>?_
       refine hK81 _ _ ?_
       refine PX.G0 [(.e 26 (.J 2))] [] 8 [] [] [.au,.au] [3,25,26] [7] hS hE trivial fun a w hS=>?_
       show Code.rounds _ _ _ 1 _ _
       rw [rounds_succ]
       refine PX.G [(.e 27 (.sc (.bool false)))] [] 8 [] [] [.au] [3,25,26,27] [7] hS hE trivial fun a w hS=>?_
       refine wp_seq_k fun K83 hK83=>?_
       refine PX.cond_s false hS (by kernel_rfl) (fun h84=>nomatch h84) (fun h84=>?_)
       refine wp_exit ?_
       refine hK74 _ _ ?_
       refine PX.G [(.e 2 (.own 7 1 (((t.args.map encI++t.args0.map encI):List (List PX.PV)).length+(t.args1.map encI).length)))] [] 8 [] [] [.au,.au] [2] [7] hS hE trivial fun a w hS=>?_
       replace hS:=PX.fz 7 [(.e 2 (.imm 1 ((t.args.map encI++t.args0.map encI)++t.args1.map encI)))] [] [2] [] [.b (PX.lenIs (((t.args.map encI++t.args0.map encI):List (List PX.PV)).length+(t.args1.map encI).length) ((t.args.map encI++t.args0.map encI)++t.args1.map encI))] hS ⟨(by simp [PX.lenIs] <;> omega),trivial⟩
       refine wp_ret ?_
       try simp only [Exit.then,Exit.inBlock,Nat.reduceEqDiff,↓reduceIte]
       rw [show (.imm 1 ((termU t).map encI))=((.imm 1 ((t.args.map encI++t.args0.map encI)++t.args1.map encI)):PX.PV) from by simp_all [termU,encI] <;> first | omega | (intro hq; exfalso; omega)]
       exact PX.ret_s hS hE (by kernel_rfl) (by kernel_rfl) (by kernel_rfl) (.inl rfl)
      ·skip
       refine wp_skip ?_
       refine hK81 _ _ ?_
       refine PX.G0 [(.e 26 (.J 2))] [] 7 [] [] [.au,.au] [3,25,26] [5] hS hE trivial fun a w hS=>?_
       show Code.rounds _ _ _ 1 _ _
       rw [rounds_succ]
       refine PX.G [(.e 27 (.sc (.bool false)))] [] 7 [] [] [.au] [3,25,26,27] [5] hS hE trivial fun a w hS=>?_
       refine wp_seq_k fun K85 hK85=>?_
       refine PX.cond_s false hS (by kernel_rfl) (fun h86=>nomatch h86) (fun h86=>?_)
       refine wp_exit ?_
       refine hK74 _ _ ?_
       refine PX.G [(.e 2 (.own 5 1 ((t.args.map encI:List (List PX.PV)).length+(t.args0.map encI).length)))] [] 7 [] [] [.au,.au] [2] [5] hS hE trivial fun a w hS=>?_
       replace hS:=PX.fz 5 [(.e 2 (.imm 1 (t.args.map encI++t.args0.map encI)))] [] [2] [] [.b (PX.lenIs ((t.args.map encI:List (List PX.PV)).length+(t.args0.map encI).length) (t.args.map encI++t.args0.map encI))] hS ⟨(by simp [PX.lenIs] <;> omega),trivial⟩
       refine wp_ret ?_
       try simp only [Exit.then,Exit.inBlock,Nat.reduceEqDiff,↓reduceIte]
       rw [show (.imm 1 ((termU t).map encI))=((.imm 1 (t.args.map encI++t.args0.map encI)):PX.PV) from by simp_all [termU,encI] <;> first | omega | (intro hq; exfalso; omega)]
       exact PX.ret_s hS hE (by kernel_rfl) (by kernel_rfl) (by kernel_rfl) (.inl rfl)
     ·skip
      refine wp_skip ?_
      refine hK77 _ _ ?_
      refine PX.G0 [(.e 26 (.J 1))] [] 5 [] [] [.au,.au] [3,25,26] [3] hS hE trivial fun a w hS=>?_
      show Code.rounds _ _ _ 2 _ _
      rw [rounds_succ]
      refine PX.G [(.e 27 (.sc (.bool true)))] [] 5 [] [] [.au] [3,25,26,27] [3] hS hE trivial fun a w hS=>?_
      refine wp_seq_k fun K87 hK87=>?_
      refine PX.cond_s true hS (by kernel_rfl) (fun h88=>?_) (fun h88=>nomatch h88)
      refine wp_skip ?_
      refine hK87 _ _ ?_
      refine wp_seq_k fun K89 hK89=>?_
      refine wp_block ?_
      refine PX.G [(.e 5 (.ptr 5 0))] [(5,.box 57 [(.J t.b1),(.imm 1 (t.args1.map encI))])] 6 [.q (1=((1:Nat):Int))] [] [.ix 1 [],.au,.au] [3,5,25,26] [3,5] hS hE ⟨rfl,trivial⟩ fun a w hS=>?_
      refine PX.G [(.e 31 (.sc (.bool (decide (0≤t.b1)))))] [] 6 [] [] [.au,.au,.au] [3,5,25,26,31] [3,5] hS hE trivial fun a w hS=>?_
      refine PX.cond_s (decide (0≤t.b1)) hS (by kernel_rfl) (fun h90=>?_) (fun h90=>?_)
      ·skip
       refine PX.G0 [(.e 3 (.own 6 1 ((t.args.map encI:List (List PX.PV)).length+(t.args1.map encI).length)))] [(6,.row 3 1 true (t.args.map encI++t.args1.map encI))] 7 [.b (lenIs (0+(t.args.map encI).length) (t.args.map encI)),.b true,.b (Nat.ble ((t.args.map encI:List (List PX.PV)).length+(t.args1.map encI).length) 1000000000)] [] [.au,.au,.au,.au,.au] [3,25,26] [6] hS hE ⟨by simp [PX.lenIs] <;> omega,rfl,by simp; omega,trivial⟩ fun a w hS=>?_
       refine hK89 _ _ ?_
       refine PX.G0 [(.e 26 (.J 2))] [] 7 [] [] [.au,.au] [3,25,26] [6] hS hE trivial fun a w hS=>?_
       show Code.rounds _ _ _ 1 _ _
       rw [rounds_succ]
       refine PX.G [(.e 27 (.sc (.bool false)))] [] 7 [] [] [.au] [3,25,26,27] [6] hS hE trivial fun a w hS=>?_
       refine wp_seq_k fun K91 hK91=>?_
       refine PX.cond_s false hS (by kernel_rfl) (fun h92=>nomatch h92) (fun h92=>?_)
       refine wp_exit ?_
       refine hK74 _ _ ?_
       refine PX.G [(.e 2 (.own 6 1 ((t.args.map encI:List (List PX.PV)).length+(t.args1.map encI).length)))] [] 7 [] [] [.au,.au] [2] [6] hS hE trivial fun a w hS=>?_
       replace hS:=PX.fz 6 [(.e 2 (.imm 1 (t.args.map encI++t.args1.map encI)))] [] [2] [] [.b (PX.lenIs ((t.args.map encI:List (List PX.PV)).length+(t.args1.map encI).length) (t.args.map encI++t.args1.map encI))] hS ⟨(by simp [PX.lenIs] <;> omega),trivial⟩
       refine wp_ret ?_
       try simp only [Exit.then,Exit.inBlock,Nat.reduceEqDiff,↓reduceIte]
       rw [show (.imm 1 ((termU t).map encI))=((.imm 1 (t.args.map encI++t.args1.map encI)):PX.PV) from by simp_all [termU,encI] <;> first | omega | (intro hq; exfalso; omega)]
       exact PX.ret_s hS hE (by kernel_rfl) (by kernel_rfl) (by kernel_rfl) (.inl rfl)
      ·skip
       refine wp_skip ?_
       refine hK89 _ _ ?_
       refine PX.G0 [(.e 26 (.J 2))] [] 6 [] [] [.au,.au] [3,25,26] [3] hS hE trivial fun a w hS=>?_
       show Code.rounds _ _ _ 1 _ _
       rw [rounds_succ]
       refine PX.G [(.e 27 (.sc (.bool false)))] [] 6 [] [] [.au] [3,25,26,27] [3] hS hE trivial fun a w hS=>?_
       refine wp_seq_k fun K93 hK93=>?_
       refine PX.cond_s false hS (by kernel_rfl) (fun h94=>nomatch h94) (fun h94=>?_)
       refine wp_exit ?_
       refine hK74 _ _ ?_
       refine PX.G [(.e 2 (.own 3 1 (0+(t.args.map encI).length)))] [] 6 [] [] [.au,.au] [2] [3] hS hE trivial fun a w hS=>?_
       replace hS:=PX.fz 3 [(.e 2 (.imm 1 (t.args.map encI)))] [] [2] [] [.b (PX.lenIs (0+(t.args.map encI).length) (t.args.map encI))] hS ⟨(by simp [PX.lenIs] <;> omega),trivial⟩
       refine wp_ret ?_
       try simp only [Exit.then,Exit.inBlock,Nat.reduceEqDiff,↓reduceIte]
       rw [show (.imm 1 ((termU t).map encI))=((.imm 1 (t.args.map encI)):PX.PV) from by simp_all [termU,encI] <;> first | omega | (intro hq; exfalso; omega)]
       exact PX.ret_s hS hE (by kernel_rfl) (by kernel_rfl) (by kernel_rfl) (.inl rfl)
    ·skip
     refine PX.G0 [(.e 17 (.sc (.bool (t.kind==6))))] [] 3 [] [] [.au,.au] [1,3,17] [1,2] hS hE trivial fun a w hS=>?_
     refine hK71 _ _ ?_
     refine PX.cond_s (t.kind==6) hS (by kernel_rfl) (fun h95=>?_) (fun h95=>?_)
     ·skip
      refine PX.G0 [(.e 3 (.own 3 1 (0+(t.args.map encI).length)))] [(3,.row 3 1 true (t.args.map encI))] 4 [.b (lenIs 0 ([])),.b true,.b (Nat.ble (0+(t.args.map encI).length) 1000000000)] [] [.au,.au,.au,.au,.au] [1,3] [1,3] hS hE ⟨rfl,rfl,by simp; omega,trivial⟩ fun a w hS=>?_
      refine hK1 _ _ ?_
      refine wp_seq_k fun K96 hK96=>?_
      refine PX.G [(.e 25 (.agg [(.J t.b0),(.imm 1 (t.args0.map encI)),(.J t.b1),(.imm 1 (t.args1.map encI))])),(.e 26 (.J 0))] [] 4 [] [] [.au,.au,.au] [3,25,26] [3] hS hE trivial fun a w hS=>?_
      refine wp_block ?_
      refine wp_loop_rounds 3 ?_
      rw [rounds_succ]
      refine PX.G [(.e 27 (.sc (.bool true)))] [] 4 [] [] [.au] [3,25,26,27] [3] hS hE trivial fun a w hS=>?_
      refine wp_seq_k fun K97 hK97=>?_
      refine PX.cond_s true hS (by kernel_rfl) (fun h98=>?_) (fun h98=>nomatch h98)
      refine wp_skip ?_
      refine hK97 _ _ ?_
      refine wp_seq_k fun K99 hK99=>?_
      refine wp_block ?_
      refine PX.G [(.e 5 (.ptr 4 0))] [(4,.box 57 [(.J t.b0),(.imm 1 (t.args0.map encI))])] 5 [.q (0=((0:Nat):Int))] [] [.ix 0 [],.au,.au] [3,5,25,26] [3,4] hS hE ⟨rfl,trivial⟩ fun a w hS=>?_
      refine PX.G [(.e 31 (.sc (.bool (decide (0≤t.b0)))))] [] 5 [] [] [.au,.au,.au] [3,5,25,26,31] [3,4] hS hE trivial fun a w hS=>?_
      refine PX.cond_s (decide (0≤t.b0)) hS (by kernel_rfl) (fun h100=>?_) (fun h100=>?_)
      ·skip
       refine PX.G0 [(.e 3 (.own 5 1 ((t.args.map encI:List (List PX.PV)).length+(t.args0.map encI).length)))] [(5,.row 3 1 true (t.args.map encI++t.args0.map encI))] 6 [.b (lenIs (0+(t.args.map encI).length) (t.args.map encI)),.b true,.b (Nat.ble ((t.args.map encI:List (List PX.PV)).length+(t.args0.map encI).length) 1000000000)] [] [.au,.au,.au,.au,.au] [3,25,26] [5] hS hE ⟨by simp [PX.lenIs] <;> omega,rfl,by simp; omega,trivial⟩ fun a w hS=>?_
       refine hK99 _ _ ?_
       refine PX.G0 [(.e 26 (.J 1))] [] 6 [] [] [.au,.au] [3,25,26] [5] hS hE trivial fun a w hS=>?_
       show Code.rounds _ _ _ 2 _ _
       rw [rounds_succ]
       refine PX.G [(.e 27 (.sc (.bool true)))] [] 6 [] [] [.au] [3,25,26,27] [5] hS hE trivial fun a w hS=>?_
       refine wp_seq_k fun K101 hK101=>?_
       refine PX.cond_s true hS (by kernel_rfl) (fun h102=>?_) (fun h102=>nomatch h102)
       refine wp_skip ?_
       refine hK101 _ _ ?_
       refine wp_seq_k fun K103 hK103=>?_
       refine wp_block ?_
       refine PX.G [(.e 5 (.ptr 6 0))] [(6,.box 57 [(.J t.b1),(.imm 1 (t.args1.map encI))])] 7 [.q (1=((1:Nat):Int))] [] [.ix 1 [],.au,.au] [3,5,25,26] [5,6] hS hE ⟨rfl,trivial⟩ fun a w hS=>?_
       refine PX.G [(.e 31 (.sc (.bool (decide (0≤t.b1)))))] [] 7 [] [] [.au,.au,.au] [3,5,25,26,31] [5,6] hS hE trivial fun a w hS=>?_
       refine PX.cond_s (decide (0≤t.b1)) hS (by kernel_rfl) (fun h104=>?_) (fun h104=>?_)
       ·skip
        refine PX.G0 [(.e 3 (.own 7 1 (((t.args.map encI++t.args0.map encI):List (List PX.PV)).length+(t.args1.map encI).length)))] [(7,.row 3 1 true ((t.args.map encI++t.args0.map encI)++t.args1.map encI))] 8 [.b (lenIs ((t.args.map encI:List (List PX.PV)).length+(t.args0.map encI).length) (t.args.map encI++t.args0.map encI)),.b true,.b (Nat.ble (((t.args.map encI++t.args0.map encI):List (List PX.PV)).length+(t.args1.map encI).length) 1000000000)] [] [.au,.au,.au,.au,.au] [3,25,26] [7] hS hE ⟨by simp [PX.lenIs] <;> omega,rfl,by simp; omega,trivial⟩ fun a w hS=>?_
        refine hK103 _ _ ?_
        refine PX.G0 [(.e 26 (.J 2))] [] 8 [] [] [.au,.au] [3,25,26] [7] hS hE trivial fun a w hS=>?_
        show Code.rounds _ _ _ 1 _ _
        rw [rounds_succ]
        refine PX.G [(.e 27 (.sc (.bool false)))] [] 8 [] [] [.au] [3,25,26,27] [7] hS hE trivial fun a w hS=>?_
        refine wp_seq_k fun K105 hK105=>?_
        refine PX.cond_s false hS (by kernel_rfl) (fun h106=>nomatch h106) (fun h106=>?_)
        refine wp_exit ?_
        refine hK96 _ _ ?_
        refine PX.G [(.e 2 (.own 7 1 (((t.args.map encI++t.args0.map encI):List (List PX.PV)).length+(t.args1.map encI).length)))] [] 8 [] [] [.au,.au] [2] [7] hS hE trivial fun a w hS=>?_
        replace hS:=PX.fz 7 [(.e 2 (.imm 1 ((t.args.map encI++t.args0.map encI)++t.args1.map encI)))] [] [2] [] [.b (PX.lenIs (((t.args.map encI++t.args0.map encI):List (List PX.PV)).length+(t.args1.map encI).length) ((t.args.map encI++t.args0.map encI)++t.args1.map encI))] hS ⟨(by simp [PX.lenIs] <;> omega),trivial⟩
        refine wp_ret ?_
        try simp only [Exit.then,Exit.inBlock,Nat.reduceEqDiff,↓reduceIte]
        rw [show (.imm 1 ((termU t).map encI))=((.imm 1 ((t.args.map encI++t.args0.map encI)++t.args1.map encI)):PX.PV) from by simp_all [termU,encI] <;> first | omega | (intro hq; exfalso; omega)]
        exact PX.ret_s hS hE (by kernel_rfl) (by kernel_rfl) (by kernel_rfl) (.inl rfl)
       ·skip
        refine wp_skip ?_
        refine hK103 _ _ ?_
        refine PX.G0 [(.e 26 (.J 2))] [] 7 [] [] [.au,.au] [3,25,26] [5] hS hE trivial fun a w hS=>?_
        show Code.rounds _ _ _ 1 _ _
        rw [rounds_succ]
        refine PX.G [(.e 27 (.sc (.bool false)))] [] 7 [] [] [.au] [3,25,26,27] [5] hS hE trivial fun a w hS=>?_
        refine wp_seq_k fun K107 hK107=>?_
        refine PX.cond_s false hS (by kernel_rfl) (fun h108=>nomatch h108) (fun h108=>?_)
        refine wp_exit ?_
        refine hK96 _ _ ?_
        refine PX.G [(.e 2 (.own 5 1 ((t.args.map encI:List (List PX.PV)).length+(t.args0.map encI).length)))] [] 7 [] [] [.au,.au] [2] [5] hS hE trivial fun a w hS=>?_
        replace hS:=PX.fz 5 [(.e 2 (.imm 1 (t.args.map encI++t.args0.map encI)))] [] [2] [] [.b (PX.lenIs ((t.args.map encI:List (List PX.PV)).length+(t.args0.map encI).length) (t.args.map encI++t.args0.map encI))] hS ⟨(by simp [PX.lenIs] <;> omega),trivial⟩
        refine wp_ret ?_
        try simp only [Exit.then,Exit.inBlock,Nat.reduceEqDiff,↓reduceIte]
        rw [show (.imm 1 ((termU t).map encI))=((.imm 1 (t.args.map encI++t.args0.map encI)):PX.PV) from by simp_all [termU,encI] <;> first | omega | (intro hq; exfalso; omega)]
        exact PX.ret_s hS hE (by kernel_rfl) (by kernel_rfl) (by kernel_rfl) (.inl rfl)
      ·skip
       refine wp_skip ?_
       refine hK99 _ _ ?_
       refine PX.G0 [(.e 26 (.J 1))] [] 5 [] [] [.au,.au] [3,25,26] [3] hS hE trivial fun a w hS=>?_
       show Code.rounds _ _ _ 2 _ _
       rw [rounds_succ]
       refine PX.G [(.e 27 (.sc (.bool true)))] [] 5 [] [] [.au] [3,25,26,27] [3] hS hE trivial fun a w hS=>?_
       refine wp_seq_k fun K109 hK109=>?_
       refine PX.cond_s true hS (by kernel_rfl) (fun h110=>?_) (fun h110=>nomatch h110)
       refine wp_skip ?_
       refine hK109 _ _ ?_
       refine wp_seq_k fun K111 hK111=>?_
       refine wp_block ?_
       refine PX.G [(.e 5 (.ptr 5 0))] [(5,.box 57 [(.J t.b1),(.imm 1 (t.args1.map encI))])] 6 [.q (1=((1:Nat):Int))] [] [.ix 1 [],.au,.au] [3,5,25,26] [3,5] hS hE ⟨rfl,trivial⟩ fun a w hS=>?_
       refine PX.G [(.e 31 (.sc (.bool (decide (0≤t.b1)))))] [] 6 [] [] [.au,.au,.au] [3,5,25,26,31] [3,5] hS hE trivial fun a w hS=>?_
       refine PX.cond_s (decide (0≤t.b1)) hS (by kernel_rfl) (fun h112=>?_) (fun h112=>?_)
       ·skip
        refine PX.G0 [(.e 3 (.own 6 1 ((t.args.map encI:List (List PX.PV)).length+(t.args1.map encI).length)))] [(6,.row 3 1 true (t.args.map encI++t.args1.map encI))] 7 [.b (lenIs (0+(t.args.map encI).length) (t.args.map encI)),.b true,.b (Nat.ble ((t.args.map encI:List (List PX.PV)).length+(t.args1.map encI).length) 1000000000)] [] [.au,.au,.au,.au,.au] [3,25,26] [6] hS hE ⟨by simp [PX.lenIs] <;> omega,rfl,by simp; omega,trivial⟩ fun a w hS=>?_
        refine hK111 _ _ ?_
        refine PX.G0 [(.e 26 (.J 2))] [] 7 [] [] [.au,.au] [3,25,26] [6] hS hE trivial fun a w hS=>?_
        show Code.rounds _ _ _ 1 _ _
        rw [rounds_succ]
        refine PX.G [(.e 27 (.sc (.bool false)))] [] 7 [] [] [.au] [3,25,26,27] [6] hS hE trivial fun a w hS=>?_
        refine wp_seq_k fun K113 hK113=>?_
        refine PX.cond_s false hS (by kernel_rfl) (fun h114=>nomatch h114) (fun h114=>?_)
        refine wp_exit ?_
        refine hK96 _ _ ?_
        refine PX.G [(.e 2 (.own 6 1 ((t.args.map encI:List (List PX.PV)).length+(t.args1.map encI).length)))] [] 7 [] [] [.au,.au] [2] [6] hS hE trivial fun a w hS=>?_
        replace hS:=PX.fz 6 [(.e 2 (.imm 1 (t.args.map encI++t.args1.map encI)))] [] [2] [] [.b (PX.lenIs ((t.args.map encI:List (List PX.PV)).length+(t.args1.map encI).length) (t.args.map encI++t.args1.map encI))] hS ⟨(by simp [PX.lenIs] <;> omega),trivial⟩
        refine wp_ret ?_
        try simp only [Exit.then,Exit.inBlock,Nat.reduceEqDiff,↓reduceIte]
        rw [show (.imm 1 ((termU t).map encI))=((.imm 1 (t.args.map encI++t.args1.map encI)):PX.PV) from by simp_all [termU,encI] <;> first | omega | (intro hq; exfalso; omega)]
        exact PX.ret_s hS hE (by kernel_rfl) (by kernel_rfl) (by kernel_rfl) (.inl rfl)
       ·skip
        refine wp_skip ?_
        refine hK111 _ _ ?_
        refine PX.G0 [(.e 26 (.J 2))] [] 6 [] [] [.au,.au] [3,25,26] [3] hS hE trivial fun a w hS=>?_
        show Code.rounds _ _ _ 1 _ _
        rw [rounds_succ]
        refine PX.G [(.e 27 (.sc (.bool false)))] [] 6 [] [] [.au] [3,25,26,27] [3] hS hE trivial fun a w hS=>?_
        refine wp_seq_k fun K115 hK115=>?_
        refine PX.cond_s false hS (by kernel_rfl) (fun h116=>nomatch h116) (fun h116=>?_)
        refine wp_exit ?_
        refine hK96 _ _ ?_
        refine PX.G [(.e 2 (.own 3 1 (0+(t.args.map encI).length)))] [] 6 [] [] [.au,.au] [2] [3] hS hE trivial fun a w hS=>?_
        replace hS:=PX.fz 3 [(.e 2 (.imm 1 (t.args.map encI)))] [] [2] [] [.b (PX.lenIs (0+(t.args.map encI).length) (t.args.map encI))] hS ⟨(by simp [PX.lenIs] <;> omega),trivial⟩
        refine wp_ret ?_
        try simp only [Exit.then,Exit.inBlock,Nat.reduceEqDiff,↓reduceIte]
        rw [show (.imm 1 ((termU t).map encI))=((.imm 1 (t.args.map encI)):PX.PV) from by simp_all [termU,encI] <;> first | omega | (intro hq; exfalso; omega)]
        exact PX.ret_s hS hE (by kernel_rfl) (by kernel_rfl) (by kernel_rfl) (.inl rfl)
     ·skip
      refine wp_skip ?_
      refine hK1 _ _ ?_
      refine wp_seq_k fun K117 hK117=>?_
      refine PX.G [(.e 25 (.agg [(.J t.b0),(.imm 1 (t.args0.map encI)),(.J t.b1),(.imm 1 (t.args1.map encI))])),(.e 26 (.J 0))] [] 3 [] [] [.au,.au,.au] [3,25,26] [2] hS hE trivial fun a w hS=>?_
      refine wp_block ?_
      refine wp_loop_rounds 3 ?_
      rw [rounds_succ]
      refine PX.G [(.e 27 (.sc (.bool true)))] [] 3 [] [] [.au] [3,25,26,27] [2] hS hE trivial fun a w hS=>?_
      refine wp_seq_k fun K118 hK118=>?_
      refine PX.cond_s true hS (by kernel_rfl) (fun h119=>?_) (fun h119=>nomatch h119)
      refine wp_skip ?_
      refine hK118 _ _ ?_
      refine wp_seq_k fun K120 hK120=>?_
      refine wp_block ?_
      refine PX.G [(.e 5 (.ptr 3 0))] [(3,.box 57 [(.J t.b0),(.imm 1 (t.args0.map encI))])] 4 [.q (0=((0:Nat):Int))] [] [.ix 0 [],.au,.au] [3,5,25,26] [2,3] hS hE ⟨rfl,trivial⟩ fun a w hS=>?_
      refine PX.G [(.e 31 (.sc (.bool (decide (0≤t.b0)))))] [] 4 [] [] [.au,.au,.au] [3,5,25,26,31] [2,3] hS hE trivial fun a w hS=>?_
      refine PX.cond_s (decide (0≤t.b0)) hS (by kernel_rfl) (fun h121=>?_) (fun h121=>?_)
      ·skip
       refine PX.G0 [(.e 3 (.own 4 1 (0+(t.args0.map encI).length)))] [(4,.row 3 1 true (t.args0.map encI))] 5 [.b (lenIs 0 ([])),.b true,.b (Nat.ble (0+(t.args0.map encI).length) 1000000000)] [] [.au,.au,.au,.au,.au] [3,25,26] [4] hS hE ⟨rfl,rfl,by simp; omega,trivial⟩ fun a w hS=>?_
       refine hK120 _ _ ?_
       refine PX.G0 [(.e 26 (.J 1))] [] 5 [] [] [.au,.au] [3,25,26] [4] hS hE trivial fun a w hS=>?_
       show Code.rounds _ _ _ 2 _ _
       rw [rounds_succ]
       refine PX.G [(.e 27 (.sc (.bool true)))] [] 5 [] [] [.au] [3,25,26,27] [4] hS hE trivial fun a w hS=>?_
       refine wp_seq_k fun K122 hK122=>?_
       refine PX.cond_s true hS (by kernel_rfl) (fun h123=>?_) (fun h123=>nomatch h123)
       refine wp_skip ?_
       refine hK122 _ _ ?_
       refine wp_seq_k fun K124 hK124=>?_
       refine wp_block ?_
       refine PX.G [(.e 5 (.ptr 5 0))] [(5,.box 57 [(.J t.b1),(.imm 1 (t.args1.map encI))])] 6 [.q (1=((1:Nat):Int))] [] [.ix 1 [],.au,.au] [3,5,25,26] [4,5] hS hE ⟨rfl,trivial⟩ fun a w hS=>?_
       refine PX.G [(.e 31 (.sc (.bool (decide (0≤t.b1)))))] [] 6 [] [] [.au,.au,.au] [3,5,25,26,31] [4,5] hS hE trivial fun a w hS=>?_
       refine PX.cond_s (decide (0≤t.b1)) hS (by kernel_rfl) (fun h125=>?_) (fun h125=>?_)
       ·skip
        refine PX.G0 [(.e 3 (.own 6 1 ((t.args0.map encI:List (List PX.PV)).length+(t.args1.map encI).length)))] [(6,.row 3 1 true (t.args0.map encI++t.args1.map encI))] 7 [.b (lenIs (0+(t.args0.map encI).length) (t.args0.map encI)),.b true,.b (Nat.ble ((t.args0.map encI:List (List PX.PV)).length+(t.args1.map encI).length) 1000000000)] [] [.au,.au,.au,.au,.au] [3,25,26] [6] hS hE ⟨by simp [PX.lenIs] <;> omega,rfl,by simp; omega,trivial⟩ fun a w hS=>?_
        refine hK124 _ _ ?_
        refine PX.G0 [(.e 26 (.J 2))] [] 7 [] [] [.au,.au] [3,25,26] [6] hS hE trivial fun a w hS=>?_
        show Code.rounds _ _ _ 1 _ _
        rw [rounds_succ]
        refine PX.G [(.e 27 (.sc (.bool false)))] [] 7 [] [] [.au] [3,25,26,27] [6] hS hE trivial fun a w hS=>?_
        refine wp_seq_k fun K126 hK126=>?_
        refine PX.cond_s false hS (by kernel_rfl) (fun h127=>nomatch h127) (fun h127=>?_)
        refine wp_exit ?_
        refine hK117 _ _ ?_
        refine PX.G [(.e 2 (.own 6 1 ((t.args0.map encI:List (List PX.PV)).length+(t.args1.map encI).length)))] [] 7 [] [] [.au,.au] [2] [6] hS hE trivial fun a w hS=>?_
        replace hS:=PX.fz 6 [(.e 2 (.imm 1 (t.args0.map encI++t.args1.map encI)))] [] [2] [] [.b (PX.lenIs ((t.args0.map encI:List (List PX.PV)).length+(t.args1.map encI).length) (t.args0.map encI++t.args1.map encI))] hS ⟨(by simp [PX.lenIs] <;> omega),trivial⟩
        refine wp_ret ?_
        try simp only [Exit.then,Exit.inBlock,Nat.reduceEqDiff,↓reduceIte]
        rw [show (.imm 1 ((termU t).map encI))=((.imm 1 (t.args0.map encI++t.args1.map encI)):PX.PV) from by simp_all [termU,encI] <;> first | omega | (intro hq; exfalso; omega)]
        exact PX.ret_s hS hE (by kernel_rfl) (by kernel_rfl) (by kernel_rfl) (.inl rfl)
       ·skip
        refine wp_skip ?_
        refine hK124 _ _ ?_
        refine PX.G0 [(.e 26 (.J 2))] [] 6 [] [] [.au,.au] [3,25,26] [4] hS hE trivial fun a w hS=>?_
        show Code.rounds _ _ _ 1 _ _
        rw [rounds_succ]
        refine PX.G [(.e 27 (.sc (.bool false)))] [] 6 [] [] [.au] [3,25,26,27] [4] hS hE trivial fun a w hS=>?_
        refine wp_seq_k fun K128 hK128=>?_
        refine PX.cond_s false hS (by kernel_rfl) (fun h129=>nomatch h129) (fun h129=>?_)
        refine wp_exit ?_
        refine hK117 _ _ ?_
        refine PX.G [(.e 2 (.own 4 1 (0+(t.args0.map encI).length)))] [] 6 [] [] [.au,.au] [2] [4] hS hE trivial fun a w hS=>?_
        replace hS:=PX.fz 4 [(.e 2 (.imm 1 (t.args0.map encI)))] [] [2] [] [.b (PX.lenIs (0+(t.args0.map encI).length) (t.args0.map encI))] hS ⟨(by simp [PX.lenIs] <;> omega),trivial⟩
        refine wp_ret ?_
        try simp only [Exit.then,Exit.inBlock,Nat.reduceEqDiff,↓reduceIte]
        rw [show (.imm 1 ((termU t).map encI))=((.imm 1 (t.args0.map encI)):PX.PV) from by simp_all [termU,encI] <;> first | omega | (intro hq; exfalso; omega)]
        exact PX.ret_s hS hE (by kernel_rfl) (by kernel_rfl) (by kernel_rfl) (.inl rfl)
      ·skip
       refine wp_skip ?_
       refine hK120 _ _ ?_
       refine PX.G0 [(.e 26 (.J 1))] [] 4 [] [] [.au,.au] [3,25,26] [2] hS hE trivial fun a w hS=>?_
       show Code.rounds _ _ _ 2 _ _
       rw [rounds_succ]
       refine PX.G [(.e 27 (.sc (.bool true)))] [] 4 [] [] [.au] [3,25,26,27] [2] hS hE trivial fun a w hS=>?_
       refine wp_seq_k fun K130 hK130=>?_
       refine PX.cond_s true hS (by kernel_rfl) (fun h131=>?_) (fun h131=>nomatch h131)
       refine wp_skip ?_
       refine hK130 _ _ ?_
       refine wp_seq_k fun K132 hK132=>?_
       refine wp_block ?_
       refine PX.G [(.e 5 (.ptr 4 0))] [(4,.box 57 [(.J t.b1),(.imm 1 (t.args1.map encI))])] 5 [.q (1=((1:Nat):Int))] [] [.ix 1 [],.au,.au] [3,5,25,26] [2,4] hS hE ⟨rfl,trivial⟩ fun a w hS=>?_
       refine PX.G [(.e 31 (.sc (.bool (decide (0≤t.b1)))))] [] 5 [] [] [.au,.au,.au] [3,5,25,26,31] [2,4] hS hE trivial fun a w hS=>?_
       refine PX.cond_s (decide (0≤t.b1)) hS (by kernel_rfl) (fun h133=>?_) (fun h133=>?_)
       ·skip
        refine PX.G0 [(.e 3 (.own 5 1 (0+(t.args1.map encI).length)))] [(5,.row 3 1 true (t.args1.map encI))] 6 [.b (lenIs 0 ([])),.b true,.b (Nat.ble (0+(t.args1.map encI).length) 1000000000)] [] [.au,.au,.au,.au,.au] [3,25,26] [5] hS hE ⟨rfl,rfl,by simp; omega,trivial⟩ fun a w hS=>?_
        refine hK132 _ _ ?_
        refine PX.G0 [(.e 26 (.J 2))] [] 6 [] [] [.au,.au] [3,25,26] [5] hS hE trivial fun a w hS=>?_
        show Code.rounds _ _ _ 1 _ _
        rw [rounds_succ]
        refine PX.G [(.e 27 (.sc (.bool false)))] [] 6 [] [] [.au] [3,25,26,27] [5] hS hE trivial fun a w hS=>?_
        refine wp_seq_k fun K134 hK134=>?_
        refine PX.cond_s false hS (by kernel_rfl) (fun h135=>nomatch h135) (fun h135=>?_)
        refine wp_exit ?_
        refine hK117 _ _ ?_
        refine PX.G [(.e 2 (.own 5 1 (0+(t.args1.map encI).length)))] [] 6 [] [] [.au,.au] [2] [5] hS hE trivial fun a w hS=>?_
        replace hS:=PX.fz 5 [(.e 2 (.imm 1 (t.args1.map encI)))] [] [2] [] [.b (PX.lenIs (0+(t.args1.map encI).length) (t.args1.map encI))] hS ⟨(by simp [PX.lenIs] <;> omega),trivial⟩
        refine wp_ret ?_
        try simp only [Exit.then,Exit.inBlock,Nat.reduceEqDiff,↓reduceIte]
        rw [show (.imm 1 ((termU t).map encI))=((.imm 1 (t.args1.map encI)):PX.PV) from by simp_all [termU,encI] <;> first | omega | (intro hq; exfalso; omega)]
        exact PX.ret_s hS hE (by kernel_rfl) (by kernel_rfl) (by kernel_rfl) (.inl rfl)
       ·skip
        refine wp_skip ?_
        refine hK132 _ _ ?_
        refine PX.G0 [(.e 26 (.J 2))] [] 5 [] [] [.au,.au] [3,25,26] [2] hS hE trivial fun a w hS=>?_
        show Code.rounds _ _ _ 1 _ _
        rw [rounds_succ]
        refine PX.G [(.e 27 (.sc (.bool false)))] [] 5 [] [] [.au] [3,25,26,27] [2] hS hE trivial fun a w hS=>?_
        refine wp_seq_k fun K136 hK136=>?_
        refine PX.cond_s false hS (by kernel_rfl) (fun h137=>nomatch h137) (fun h137=>?_)
        refine wp_exit ?_
        refine hK117 _ _ ?_
        refine PX.G [(.e 2 (.own 2 1 0))] [] 5 [] [] [.au,.au] [2] [2] hS hE trivial fun a w hS=>?_
        replace hS:=PX.fz 2 [(.e 2 (.imm 1 ([])))] [] [2] [] [.b (PX.lenIs 0 ([]))] hS ⟨(by simp [PX.lenIs] <;> omega),trivial⟩
        refine wp_ret ?_
        try simp only [Exit.then,Exit.inBlock,Nat.reduceEqDiff,↓reduceIte]
        rw [show (.imm 1 ((termU t).map encI))=((.imm 1 ([])):PX.PV) from by simp_all [termU,encI] <;> first | omega | (intro hq; exfalso; omega)]
        exact PX.ret_s hS hE (by kernel_rfl) (by kernel_rfl) (by kernel_rfl) (.inl rfl)

/-- what markUses does -/
def M144 (cn:Nat) (b:BlockD):Prop:=∀ (df l:List Int),df.length=cn→l.length=cn→PX.Con Try.prog 144 [(.agg (encB b)),.own 3 1 cn,.fn 140 [] [.ptr 1 0]] [(1,.box 35 [.own 2 1 cn]),(2,.row 3 1 true (l.map encI)),(3,.row 3 1 true (df.map encI))] 4 4 (.tup []) [(1,some (.box 35 [.own 2 1 cn])),(2,some (.row 3 1 true ((markK df b.ops l b.ops.length).2.map encI))),(3,some (.row 3 1 true (df.map encI)))]
end Go.Proofs.Ytlkcidmmpeebeaa
