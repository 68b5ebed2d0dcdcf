/- Proved: alloc: uses -/
import Derived.Test.YtlkcidmmpeebeaaPcD
import Derived.Test.YtlkcidmmpeebeaaPSmall
import Derived.Test.YtlkcidmmpeebeaaPcI
set_option linter.unusedVariables false
set_option linter.unusedSimpArgs false
namespace Go.Proofs.Ytlkcidmmpeebeaa
open Go.RowKit Go.PX
set_option maxRecDepth 100000
def mxI (x y:Int):Int:=if y > x then y else x
def useD (l:List Int) (v n:Int):List Int:=l.set v.toNat (mxI ((l[v.toNat]?).getD 0) n)
theorem use_set {l:List Int} {v n z:Int} (hz:l[v.toNat]?=some z):(l.map encI).set v.toNat [.sc (.I (if n > z then n else z))]=(useD l v n).map encI:=by
 unfold useD mxI; rw [hz,List.map_set]; rfl
theorem useD_len (l:List Int) (v n:Int):(useD l v n).length=l.length:=by unfold useD; simp
def termU (t:TermD):List Int:=(if t.kind=2∨t.kind=4∨t.kind=5 then [t.a] else if t.kind=3∨t.kind=6 then t.args else [])++((if 0≤t.b0 then t.args0 else [])++(if 0≤t.b1 then t.args1 else []))
def tuA (t:TermD):List Int:=if t.kind=2∨t.kind=4∨t.kind=5 then [t.a] else if t.kind=3∨t.kind=6 then t.args else []
def tuB (t:TermD):List Int:=tuA t++(if 0≤t.b0 then t.args0 else [])
theorem tu_len (t:TermD):(tuA t).length≤1+t.args.length∧(tuB t).length≤1+t.args.length+t.args0.length:=by
 have h1:(tuA t).length≤1+t.args.length:=by unfold tuA; split <;> (try split) <;> simp <;> omega
 refine ⟨h1,?_⟩
 unfold tuB; split <;> simp <;> omega
theorem termU_eq (t:TermD):termU t=tuB t++(if 0≤t.b1 then t.args1 else []):=by unfold termU tuB tuA; simp
def defI (l:List Int) (o:OpD) (k:Nat):List Int:=if R.defines o.kind=true then l.set o.dst.toNat (k:Int) else l
def defK (cn:Nat) (ops:List OpD) (k:Nat):List Int:=(ops.take k).zipIdx.foldl (fun l p=>defI l p.1 p.2) (List.replicate cn (-1))
def use1 (l:List Int) (o:OpD) (k:Nat):List Int:=if R.usesA o.kind=true then useD l o.a (k:Int) else l
def use2 (l:List Int) (o:OpD) (k:Nat):List Int:=if R.usesB o.kind=true then useD (use1 l o k) o.b (k:Int) else use1 l o k
def useK (cn:Nat) (ops:List OpD) (k:Nat):List Int:=(ops.take k).zipIdx.foldl (fun l p=>use2 l p.1 p.2) (defK cn ops ops.length)
def endK (cn:Nat) (b:BlockD) (k:Nat):List Int:=((termU b.term).take k).foldl (fun l v=>useD l v (b.ops.length:Int)) (useK cn b.ops b.ops.length)
abbrev MapS:=List ((Int × Int × Int) × (Int × Int × Int))
def setS (m:MapS) (k:Int × Int × Int) (v:Int × Int × Int):MapS:=if m.any (fun p=>p.1==k) then m.map (fun p=>if p.1==k then (k,v) else p) else m++[(k,v)]
def mark1 (df:List Int) (k:Nat) (l:List Int) (v:Int × Int × Int):List Int:=if v.1=2∧(df[v.2.1.toNat]?).getD 0<(k:Int) then useD l v.2.1 (k:Int) else l
def markStep (df:List Int) (s:MapS × List Int) (p:OpD × Nat):MapS × List Int :=
 if p.1.kind=21 then (setS s.1 (p.1.ctx,p.1.var,p.1.piece) (p.1.sk,p.1.sv,p.1.sa),s.2)
 else if p.1.kind=19∨p.1.kind=20 then (s.1,(s.1.map (·.2)).foldl (mark1 df p.2) s.2) else s
def markK (df:List Int) (ops:List OpD) (l:List Int) (k:Nat):MapS × List Int:=(ops.take k).zipIdx.foldl (markStep df) ([],l)
def lastD (keep:Bool) (cn:Nat) (b:BlockD):List Int :=
 if keep=true then (markK (defK cn b.ops b.ops.length) b.ops (endK cn b (termU b.term).length) b.ops.length).2 else endK cn b (termU b.term).length
theorem mark1_len (df:List Int) (k:Nat) (l:List Int) (v:Int × Int × Int):(mark1 df k l v).length=l.length:=by unfold mark1; split <;> simp [useD_len]
theorem markStep_len (df:List Int) (s:MapS × List Int) (p:OpD × Nat):(markStep df s p).2.length=s.2.length:=by
 have h:∀ (xs:List (Int × Int × Int)) (l:List Int),(xs.foldl (mark1 df p.2) l).length=l.length:=by
  intro xs; induction xs with
  | nil=>intro l; rfl
  | cons x xs ih=>intro l; rw [List.foldl_cons,ih,mark1_len]
 unfold markStep; split
 ·rfl
 ·split
  ·exact h _ _
  ·rfl
theorem markK_len (df:List Int) (ops:List OpD) (l:List Int) (k:Nat):(markK df ops l k).2.length=l.length:=by
 have h:∀ (xs:List (OpD × Nat)) (s:MapS × List Int),(xs.foldl (markStep df) s).2.length=s.2.length:=by
  intro xs; induction xs with
  | nil=>intro s; rfl
  | cons x xs ih=>intro s; rw [List.foldl_cons,ih,markStep_len]
 exact h _ _
theorem fold_take {α:Type} (f:α→OpD × Nat→α) (x:α) {ops:List OpD} {k:Nat} {y:OpD} (hy:ops[k]?=some y):(ops.take (k+1)).zipIdx.foldl f x=f ((ops.take k).zipIdx.foldl f x) (y,k):=by
 have hk:=(List.getElem?_eq_some_iff.1 hy).1
 rw [List.take_add_one,hy]
 simp [List.zipIdx_append,List.foldl_append,Nat.min_eq_left (Nat.le_of_lt hk)]
theorem defI_len (l:List Int) (o:OpD) (k:Nat):(defI l o k).length=l.length:=by unfold defI; split <;> simp
theorem use2_len (l:List Int) (o:OpD) (k:Nat):(use1 l o k).length=l.length∧(use2 l o k).length=l.length:=by
 have h1:(use1 l o k).length=l.length:=by unfold use1; split <;> simp [useD_len]
 exact ⟨h1,by unfold use2; split <;> simp [useD_len,h1]⟩
theorem fold_len {α:Type} {f:List Int→α→List Int} (h:∀ l x,(f l x).length=l.length):∀ (xs:List α) (l:List Int),(xs.foldl f l).length=l.length
 | [],l=>rfl
 | x::xs,l=>by rw [List.foldl_cons,fold_len h xs,h]
theorem defK_len (cn:Nat) (ops:List OpD) (k:Nat):(defK cn ops k).length=cn:=by unfold defK; rw [fold_len (f:=fun l (p:OpD × Nat)=>defI l p.1 p.2) (fun l p=>defI_len l p.1 p.2)]; simp
theorem useK_len (cn:Nat) (ops:List OpD) (k:Nat):(useK cn ops k).length=cn:=by unfold useK; rw [fold_len (f:=fun l (p:OpD × Nat)=>use2 l p.1 p.2) (fun l p=>(use2_len l p.1 p.2).2),defK_len]
theorem endK_len (cn:Nat) (b:BlockD) (k:Nat):(endK cn b k).length=cn:=by unfold endK; rw [fold_len fun l v=>useD_len l v _,useK_len]
theorem lastD_len (keep:Bool) (cn:Nat) (b:BlockD):(lastD keep cn b).length=cn:=by unfold lastD; split <;> simp [markK_len,endK_len]
theorem endK_succ {cn:Nat} {b:BlockD} {k:Nat} {y:Int} (hy:(termU b.term)[k]?=some y):endK cn b (k+1)=useD (endK cn b k) y (b.ops.length:Int):=by
 unfold endK; rw [List.take_add_one,hy,List.foldl_append]; rfl
theorem set_minus {cn k:Nat} (h:k<cn):((List.replicate k (-1:Int)++List.replicate (cn-k) 0).map encI).set k [.sc (.I (-1))]=(List.replicate (k+1) (-1:Int)++List.replicate (cn-(k+1)) 0).map encI:=by
 obtain ⟨d,hd⟩:∃ d,cn-k=d+1:=⟨cn-k-1,by omega⟩
 rw [hd,show cn-(k+1)=d by omega,List.replicate_succ,List.replicate_succ',List.map_append,List.map_cons,List.set_append_right _ _ (by simp)]
 simp [encI]
structure AOk (cn:Nat) (b:BlockD):Prop where
 pos:cn≤1000000
 ops:b.ops.length≤1000000
 dst:∀ o∈b.ops,R.defines o.kind=true→0≤o.dst∧o.dst<(cn:Int)
 ua:∀ o∈b.ops,R.usesA o.kind=true→0≤o.a∧o.a<(cn:Int)
 ub:∀ o∈b.ops,R.usesB o.kind=true→0≤o.b∧o.b<(cn:Int)
 len:b.term.args.length≤1000000∧b.term.args0.length≤1000000∧b.term.args1.length≤1000000
 term:∀ v∈termU b.term,0≤v∧v<(cn:Int)
 src:∀ o∈b.ops,o.kind=21→o.sk=2→0≤o.sv∧o.sv<(cn:Int)

set_option maxHeartbeats 400000 in
theorem con_f104 (k:Int):PX.Con Try.prog 104 [(.J k)] [] 1 100000 (.sc (.bool (R.defines k))) []:=by
 refine PX.con_intro [(.J k)] 9 Try.func104 rfl rfl (by kernel_rfl) (by kernel_rfl) ?_
 intro E a hE hS
 generalize E.w0=w at hS ⊢
 have mix:=mixed
 refine PX.G [] [] 1 [] [] [.au] [0] [] hS hE trivial fun a w hS=>?_
 refine PX.G [(.e 2 (.sc (.bool (decide (1≤k)&&decide (k≤15)))))] [] 1 [] [(2,decide (1≤k))] [.au,.au,.au,.au,.au,.pk,.au] [2] [] hS hE trivial fun a w hS=>?_
 refine wp_ret ?_
 rw [show (.sc (.bool (R.defines k)))=((.sc (.bool (decide (1≤k)&&decide (k≤15)))):PX.PV) from by simp [R.defines]]
 exact PX.rt hS hE (.inl rfl)

set_option maxHeartbeats 400000 in
theorem con_f141 (k:Int):PX.Con Try.prog 141 [(.J k)] [] 1 100000 (.sc (.bool (R.usesA k))) []:=by
 refine PX.con_intro [(.J k)] 13 Try.func141 rfl rfl (by kernel_rfl) (by kernel_rfl) ?_
 intro E a hE hS
 generalize E.w0=w at hS ⊢
 have mix:=mixed
 refine PX.G [] [] 1 [] [] [.au] [0] [] hS hE trivial fun a w hS=>?_
 refine PX.G [(.e 2 (.sc (.bool ((decide (2≤k)&&decide (k≤16))||(k==18)))))] [] 1 [] [(2,decide (2≤k)),(6,(decide (2≤k)&&decide (k≤16)))] [.au,.au,.au,.au,.au,.pk,.au,.au,.au,.pk,.au] [2] [] hS hE trivial fun a w hS=>?_
 refine wp_ret ?_
 rw [show (.sc (.bool (R.usesA k)))=((.sc (.bool ((decide (2≤k)&&decide (k≤16))||(k==18)))):PX.PV) from by unfold R.usesA; simp [Bool.or_comm,Bool.or_left_comm,Bool.or_assoc]]
 exact PX.rt hS hE (.inl rfl)

set_option maxHeartbeats 400000 in
theorem con_f142 (k:Int):PX.Con Try.prog 142 [(.J k)] [] 1 100000 (.sc (.bool (R.usesB k))) []:=by
 refine PX.con_intro [(.J k)] 13 Try.func142 rfl rfl (by kernel_rfl) (by kernel_rfl) ?_
 intro E a hE hS
 generalize E.w0=w at hS ⊢
 have mix:=mixed
 refine PX.G [] [] 1 [] [] [.au] [0] [] hS hE trivial fun a w hS=>?_
 refine PX.G [(.e 2 (.sc (.bool ((decide (3≤k)&&decide (k≤14))||(k==16)))))] [] 1 [] [(2,decide (3≤k)),(6,(decide (3≤k)&&decide (k≤14)))] [.au,.au,.au,.au,.au,.pk,.au,.au,.au,.pk,.au] [2] [] hS hE trivial fun a w hS=>?_
 refine wp_ret ?_
 rw [show (.sc (.bool (R.usesB k)))=((.sc (.bool ((decide (3≤k)&&decide (k≤14))||(k==16)))):PX.PV) from by unfold R.usesB; simp [Bool.or_comm,Bool.or_left_comm,Bool.or_assoc]]
 exact PX.rt hS hE (.inl rfl)

set_option maxHeartbeats 400000 in
theorem con_f140 (l:List Int) (cn:Nat) (hl:l.length=cn) (v n:Int) (hv:0≤v∧v<(cn:Int)):PX.Con Try.prog 140 [(.J v),(.J n),(.ptr 1 0)] [(1,.box 35 [(.own 2 1 cn)]),(2,.row 3 1 true (l.map encI))] 3 100000 (.tup []) [(1,some (.box 35 [(.own 2 1 cn)])),(2,some (.row 3 1 true ((useD l v n).map encI)))]:=by
 refine PX.con_intro [(.J v),(.J n),(.ptr 1 0)] 14 Try.func140 rfl rfl (by kernel_rfl) (by kernel_rfl) ?_
 intro E a hE hS
 generalize E.w0=w at hS ⊢
 have mix:=mixed
 obtain ⟨z,hz⟩:=get_of_lt (show v.toNat<l.length by omega)
 refine PX.D0 [] [(2,.row 3 1 true ((l.map encI).set v.toNat [(.sc (.I (if n > z then n else z)))]))] 3 [.q (v=(v.toNat:Int)),.q (v.toNat<cn),.q ((l.map encI)[v.toNat]?=some (encI z)),.q (v=(v.toNat:Int)),.q (v.toNat<cn),.q ((l.map encI)[v.toNat]?=some (encI z))] [] [.au,.au,.au,.au,.ix v.toNat [],.lr (encI z),.au,.au,.ix v.toNat [],.lr (encI z)] [] [1,2] hS mixed hE ⟨by omega,by omega,PX.map_get hz,by omega,by omega,PX.map_get hz,trivial⟩ fun a w hS=>?_
 rw [show ((l.map encI).set v.toNat [(.sc (.I (if n > z then n else z)))])=(useD l v n).map encI from use_set hz] at hS
 exact PX.rt hS hE (.inr rfl)

set_option maxHeartbeats 2000000 in
theorem con_f143 (t:TermD) (h1:t.args.length≤1000000) (h2:t.args0.length≤1000000) (h3:t.args1.length≤1000000):PX.Con Try.prog 143 [(.agg [(.J t.kind),(.J t.a),(.J t.n),(.imm 1 (t.args.map encI)),(.J t.b0),(.imm 1 (t.args0.map encI)),(.J t.b1),(.imm 1 (t.args1.map encI))])] [] 1 100000 (.imm 1 ((termU t).map encI)) []:=by
 refine PX.con_intro [(.agg [(.J t.kind),(.J t.a),(.J t.n),(.imm 1 (t.args.map encI)),(.J t.b0),(.imm 1 (t.args0.map encI)),(.J t.b1),(.imm 1 (t.args1.map encI))])] 38 Try.func143 rfl rfl (by kernel_rfl) (by kernel_rfl) ?_
 intro E a hE hS
 generalize E.w0=w at hS ⊢
 have mix:=mixed
 have htl:=tu_len t
 refine PX.G [(.e 1 (.ptr 1 0))] [(1,.box 60 [(.J t.kind),(.J t.a),(.J t.n),(.imm 1 (t.args.map encI)),(.J t.b0),(.imm 1 (t.args0.map encI)),(.J t.b1),(.imm 1 (t.args1.map encI))])] 2 [] [] [.au,.au] [1] [1] hS hE trivial fun a w hS=>?_
 refine PX.G [(.e 3 (.sc (.slice none 0 0)))] [] 2 [] [] [.au] [1,3] [1] hS hE trivial fun a w hS=>?_
 replace hS:=PX.sl [1,3] (PX.reslot (t:=3) (.own 2 1 0) (PX.newrow 3 1 hS (hE.le (by decide))) rfl (PX.nil_own 2 1))
 refine PX.seq_cut (E:=E) (N:=38) (T:=[(.e 1 (.ptr 1 0)),(.e 3 (.own 2 1 ((tuA t).length)))]) (H:=[(1,.box 60 [(.J t.kind),(.J t.a),(.J t.n),(.imm 1 (t.args.map encI)),(.J t.b0),(.imm 1 (t.args0.map encI)),(.J t.b1),(.imm 1 (t.args1.map encI))]),(2,.row 3 1 true ((tuA t).map encI))]) (nx:=3) ?_ ?_
 ·skip
  refine PX.G [(.e 7 (.J t.kind))] [] 3 [] [] [.au,.au] [1,3,7] [1,2] hS hE trivial fun a w hS=>?_
  refine wp_block ?_
  refine wp_seq_k fun K1 hK1=>?_
  refine PX.G [(.e 8 (.sc (.bool (t.kind==2))))] [] 3 [] [] [.au,.au] [1,3,7,8] [1,2] hS hE trivial fun a w hS=>?_
  refine PX.cond_s (t.kind==2) hS (by kernel_rfl) (fun h2=>?_) (fun h2=>?_)
  ·skip
   refine wp_skip ?_
   refine hK1 _ _ ?_
   refine PX.cond_s (t.kind==2) hS (by kernel_rfl) (fun h3=>?_) (fun h3=>nomatch (h2.symm.trans h3))
   refine PX.G0 [(.e 3 (.own 4 1 1))] [(4,.row 3 1 true ([[(.J t.a)]]))] 5 [.b (lenIs 0 ([])),.b (lenIs 1 ([[(.J t.a)]])),.b (Nat.ble (1) 1000000000)] [] [.au,.au,.au,.au,.au,.au] [1,3] [1,4] hS hE ⟨rfl,rfl,rfl,trivial⟩ fun a w hS=>?_
   replace hS:=PX.sl [1,3] (PX.reslot (t:=3) (.own 4 1 ((tuA t).length)) hS rfl (fun _ _ _ _ h=>(show (.own 4 1 1:PX.PV)=.own 4 1 (tuA t).length from by rw [show 1=(tuA t).length from by simp_all [tuA] <;> first | omega | (intro hq; exfalso; omega)]) ▸ h))
   replace hS:=PX.rerow (id:=4) ((tuA t).map encI) hS rfl (by simp_all [tuA,encI] <;> first | omega | (intro hq; exfalso; omega))
   exact (PX.cn [(2,4)] _ _ 3 hS hE)
  ·skip
   refine PX.G [(.e 8 (.sc (.bool (t.kind==4))))] [] 3 [] [] [.au,.au] [1,3,7,8] [1,2] hS hE trivial fun a w hS=>?_
   refine PX.cond_s (t.kind==4) hS (by kernel_rfl) (fun h4=>?_) (fun h4=>?_)
   ·skip
    refine wp_skip ?_
    refine hK1 _ _ ?_
    refine PX.cond_s (t.kind==4) hS (by kernel_rfl) (fun h5=>?_) (fun h5=>nomatch (h4.symm.trans h5))
    refine PX.G0 [(.e 3 (.own 4 1 1))] [(4,.row 3 1 true ([[(.J t.a)]]))] 5 [.b (lenIs 0 ([])),.b (lenIs 1 ([[(.J t.a)]])),.b (Nat.ble (1) 1000000000)] [] [.au,.au,.au,.au,.au,.au] [1,3] [1,4] hS hE ⟨rfl,rfl,rfl,trivial⟩ fun a w hS=>?_
    replace hS:=PX.sl [1,3] (PX.reslot (t:=3) (.own 4 1 ((tuA t).length)) hS rfl (fun _ _ _ _ h=>(show (.own 4 1 1:PX.PV)=.own 4 1 (tuA t).length from by rw [show 1=(tuA t).length from by simp_all [tuA] <;> first | omega | (intro hq; exfalso; omega)]) ▸ h))
    replace hS:=PX.rerow (id:=4) ((tuA t).map encI) hS rfl (by simp_all [tuA,encI] <;> first | omega | (intro hq; exfalso; omega))
    exact (PX.cn [(2,4)] _ _ 3 hS hE)
   ·skip
    refine PX.G0 [(.e 8 (.sc (.bool (t.kind==5))))] [] 3 [] [] [.au,.au] [1,3,7,8] [1,2] hS hE trivial fun a w hS=>?_
    refine hK1 _ _ ?_
    refine PX.cond_s (t.kind==5) hS (by kernel_rfl) (fun h6=>?_) (fun h6=>?_)
    ·skip
     refine PX.G0 [(.e 3 (.own 4 1 1))] [(4,.row 3 1 true ([[(.J t.a)]]))] 5 [.b (lenIs 0 ([])),.b (lenIs 1 ([[(.J t.a)]])),.b (Nat.ble (1) 1000000000)] [] [.au,.au,.au,.au,.au,.au] [1,3] [1,4] hS hE ⟨rfl,rfl,rfl,trivial⟩ fun a w hS=>?_
     replace hS:=PX.sl [1,3] (PX.reslot (t:=3) (.own 4 1 ((tuA t).length)) hS rfl (fun _ _ _ _ h=>(show (.own 4 1 1:PX.PV)=.own 4 1 (tuA t).length from by rw [show 1=(tuA t).length from by simp_all [tuA] <;> first | omega | (intro hq; exfalso; omega)]) ▸ h))
     replace hS:=PX.rerow (id:=4) ((tuA t).map encI) hS rfl (by simp_all [tuA,encI] <;> first | omega | (intro hq; exfalso; omega))
     exact (PX.cn [(2,4)] _ _ 3 hS hE)
    ·skip
     refine wp_seq_k fun K7 hK7=>?_
     refine PX.G [(.e 17 (.sc (.bool (t.kind==3))))] [] 3 [] [] [.au,.au] [1,3,7,17] [1,2] hS hE trivial fun a w hS=>?_
     refine PX.cond_s (t.kind==3) hS (by kernel_rfl) (fun h8=>?_) (fun h8=>?_)
     ·skip
      refine wp_skip ?_
      refine hK7 _ _ ?_
      refine PX.cond_s (t.kind==3) hS (by kernel_rfl) (fun h9=>?_) (fun h9=>nomatch (h8.symm.trans h9))
      refine PX.G0 [(.e 3 (.own 3 1 (0+(t.args.map encI).length)))] [(3,.row 3 1 true (t.args.map encI))] 4 [.b (lenIs 0 ([])),.b true,.b (Nat.ble (0+(t.args.map encI).length) 1000000000)] [] [.au,.au,.au,.au,.au] [1,3] [1,3] hS hE ⟨rfl,rfl,by simp; omega,trivial⟩ fun a w hS=>?_
      replace hS:=PX.sl [1,3] (PX.reslot (t:=3) (.own 3 1 ((tuA t).length)) hS rfl (fun _ _ _ _ h=>(show (.own 3 1 (0+(t.args.map encI).length):PX.PV)=.own 3 1 (tuA t).length from by rw [show 0+(t.args.map encI).length=(tuA t).length from by simp_all [tuA] <;> first | omega | (intro hq; exfalso; omega)]) ▸ h))
      replace hS:=PX.rerow (id:=3) ((tuA t).map encI) hS rfl (by simp_all [tuA,encI] <;> first | omega | (intro hq; exfalso; omega))
      exact (PX.cn [(2,3)] _ _ 3 hS hE)
     ·skip
      refine PX.G0 [(.e 17 (.sc (.bool (t.kind==6))))] [] 3 [] [] [.au,.au] [1,3,17] [1,2] hS hE trivial fun a w hS=>?_
      refine hK7 _ _ ?_
      refine PX.cond_s (t.kind==6) hS (by kernel_rfl) (fun h10=>?_) (fun h10=>?_)
      ·skip
       refine PX.G0 [(.e 3 (.own 3 1 (0+(t.args.map encI).length)))] [(3,.row 3 1 true (t.args.map encI))] 4 [.b (lenIs 0 ([])),.b true,.b (Nat.ble (0+(t.args.map encI).length) 1000000000)] [] [.au,.au,.au,.au,.au] [1,3] [1,3] hS hE ⟨rfl,rfl,by simp; omega,trivial⟩ fun a w hS=>?_
       replace hS:=PX.sl [1,3] (PX.reslot (t:=3) (.own 3 1 ((tuA t).length)) hS rfl (fun _ _ _ _ h=>(show (.own 3 1 (0+(t.args.map encI).length):PX.PV)=.own 3 1 (tuA t).length from by rw [show 0+(t.args.map encI).length=(tuA t).length from by simp_all [tuA] <;> first | omega | (intro hq; exfalso; omega)]) ▸ h))
       replace hS:=PX.rerow (id:=3) ((tuA t).map encI) hS rfl (by simp_all [tuA,encI] <;> first | omega | (intro hq; exfalso; omega))
       exact (PX.cn [(2,3)] _ _ 3 hS hE)
      ·skip
       refine wp_skip ?_
       replace hS:=PX.sl [1,3,17] (PX.reslot (t:=3) (.own 2 1 ((tuA t).length)) hS rfl (fun _ _ _ _ h=>(show (.own 2 1 0:PX.PV)=.own 2 1 (tuA t).length from by rw [show 0=(tuA t).length from by simp_all [tuA] <;> first | omega | (intro hq; exfalso; omega)]) ▸ h))
       replace hS:=PX.rerow (id:=2) ((tuA t).map encI) hS rfl (by simp_all [tuA,encI] <;> first | omega | (intro hq; exfalso; omega))
       replace hS:=PX.sl [1,3] hS
       exact (PX.cn [] _ _ 3 hS hE)
 clear hS; intro a w hS
 refine wp_seq_k fun K11 hK11=>?_
 refine PX.G [(.e 25 (.agg [(.J t.b0),(.imm 1 (t.args0.map encI)),(.J t.b1),(.imm 1 (t.args1.map encI))])),(.e 26 (.J 0))] [] 3 [] [] [.au,.au,.au] [3,25,26] [2] hS hE trivial fun a w hS=>?_
 refine wp_block ?_
 refine wp_loop_rounds 3 ?_
 rw [rounds_succ]
 refine PX.G [(.e 27 (.sc (.bool true)))] [] 3 [] [] [.au] [3,25,26,27] [2] hS hE trivial fun a w hS=>?_
 refine wp_seq_k fun K12 hK12=>?_
 refine PX.cond_s true hS (by kernel_rfl) (fun h13=>?_) (fun h13=>nomatch h13)
 refine wp_skip ?_
 refine hK12 _ _ ?_
 refine PX.seq_cut (E:=E) (N:=38) (T:=[(.e 3 (.own 2 1 ((tuB t).length))),(.e 25 (.agg [(.J t.b0),(.imm 1 (t.args0.map encI)),(.J t.b1),(.imm 1 (t.args1.map encI))])),(.e 26 (.J 0))]) (H:=[(2,.row 3 1 true ((tuB t).map encI))]) (nx:=3) ?_ ?_
 ·skip
  refine wp_block ?_
  refine PX.G [(.e 5 (.ptr 3 0))] [(3,.box 57 [(.J t.b0),(.imm 1 (t.args0.map encI))])] 4 [.q (0=((0:Nat):Int))] [] [.ix 0 [],.au,.au] [3,5,25,26] [2,3] hS hE ⟨rfl,trivial⟩ fun a w hS=>?_
  refine PX.G [(.e 31 (.sc (.bool (decide (0≤t.b0)))))] [] 4 [] [] [.au,.au,.au] [3,5,25,26,31] [2,3] hS hE trivial fun a w hS=>?_
  refine PX.cond_s (decide (0≤t.b0)) hS (by kernel_rfl) (fun h14=>?_) (fun h14=>?_)
  ·skip
   refine PX.G0 [(.e 3 (.own 4 1 (((tuA t).map encI:List (List PX.PV)).length+(t.args0.map encI).length)))] [(4,.row 3 1 true ((tuA t).map encI++t.args0.map encI))] 5 [.b (lenIs ((tuA t).length) ((tuA t).map encI)),.b true,.b (Nat.ble (((tuA t).map encI:List (List PX.PV)).length+(t.args0.map encI).length) 1000000000)] [] [.au,.au,.au,.au,.au] [3,25,26] [4] hS hE ⟨by simp [PX.lenIs] <;> omega,rfl,by simp; omega,trivial⟩ fun a w hS=>?_
   replace hS:=PX.sl [3,25,26] (PX.reslot (t:=3) (.own 4 1 ((tuB t).length)) hS rfl (fun _ _ _ _ h=>(show (.own 4 1 (((tuA t).map encI:List (List PX.PV)).length+(t.args0.map encI).length):PX.PV)=.own 4 1 (tuB t).length from by rw [show ((tuA t).map encI:List (List PX.PV)).length+(t.args0.map encI).length=(tuB t).length from by simp_all [tuB] <;> first | omega | (intro hq; exfalso; omega)]) ▸ h))
   replace hS:=PX.rerow (id:=4) ((tuB t).map encI) hS rfl (by simp_all [tuB,encI] <;> first | omega | (intro hq; exfalso; omega))
   exact (PX.cn [(2,4)] _ _ 3 hS hE)
  ·skip
   refine wp_skip ?_
   replace hS:=PX.sl [3,5,25,26,31] (PX.reslot (t:=3) (.own 2 1 ((tuB t).length)) hS rfl (fun _ _ _ _ h=>(show (.own 2 1 ((tuA t).length):PX.PV)=.own 2 1 (tuB t).length from by rw [show (tuA t).length=(tuB t).length from by simp_all [tuB] <;> first | omega | (intro hq; exfalso; omega)]) ▸ h))
   replace hS:=PX.rerow (id:=2) ((tuB t).map encI) hS rfl (by simp_all [tuB,encI] <;> first | omega | (intro hq; exfalso; omega))
   replace hS:=PX.sl [3,25,26] hS
   exact (PX.cn [] _ _ 3 hS hE)
 clear hS; intro a w hS
 refine PX.G0 [(.e 26 (.J 1))] [] 3 [] [] [.au,.au] [3,25,26] [2] hS hE trivial fun a w hS=>?_
 show Code.rounds _ _ _ 2 _ _
 rw [rounds_succ]
 refine PX.G [(.e 27 (.sc (.bool true)))] [] 3 [] [] [.au] [3,25,26,27] [2] hS hE trivial fun a w hS=>?_
 refine wp_seq_k fun K15 hK15=>?_
 refine PX.cond_s true hS (by kernel_rfl) (fun h16=>?_) (fun h16=>nomatch h16)
 refine wp_skip ?_
 refine hK15 _ _ ?_
 refine wp_seq_k fun K17 hK17=>?_
 refine wp_block ?_
 refine PX.G [(.e 5 (.ptr 3 0))] [(3,.box 57 [(.J t.b1),(.imm 1 (t.args1.map encI))])] 4 [.q (1=((1:Nat):Int))] [] [.ix 1 [],.au,.au] [3,5,25,26] [2,3] hS hE ⟨rfl,trivial⟩ fun a w hS=>?_
 refine PX.G [(.e 31 (.sc (.bool (decide (0≤t.b1)))))] [] 4 [] [] [.au,.au,.au] [3,5,25,26,31] [2,3] hS hE trivial fun a w hS=>?_
 refine PX.cond_s (decide (0≤t.b1)) hS (by kernel_rfl) (fun h18=>?_) (fun h18=>?_)
 ·skip
  refine PX.G0 [(.e 3 (.own 4 1 (((tuB t).map encI:List (List PX.PV)).length+(t.args1.map encI).length)))] [(4,.row 3 1 true ((tuB t).map encI++t.args1.map encI))] 5 [.b (lenIs ((tuB t).length) ((tuB t).map encI)),.b true,.b (Nat.ble (((tuB t).map encI:List (List PX.PV)).length+(t.args1.map encI).length) 1000000000)] [] [.au,.au,.au,.au,.au] [3,25,26] [4] hS hE ⟨by simp [PX.lenIs] <;> omega,rfl,by simp; omega,trivial⟩ fun a w hS=>?_
  refine hK17 _ _ ?_
  refine PX.G0 [(.e 26 (.J 2))] [] 5 [] [] [.au,.au] [3,25,26] [4] hS hE trivial fun a w hS=>?_
  show Code.rounds _ _ _ 1 _ _
  rw [rounds_succ]
  refine PX.G [(.e 27 (.sc (.bool false)))] [] 5 [] [] [.au] [3,25,26,27] [4] hS hE trivial fun a w hS=>?_
  refine wp_seq_k fun K19 hK19=>?_
  refine PX.cond_s false hS (by kernel_rfl) (fun h20=>nomatch h20) (fun h20=>?_)
  refine wp_exit ?_
  refine hK11 _ _ ?_
  refine PX.G [(.e 2 (.own 4 1 (((tuB t).map encI:List (List PX.PV)).length+(t.args1.map encI).length)))] [] 5 [] [] [.au,.au] [2] [4] hS hE trivial fun a w hS=>?_
  replace hS:=PX.fz 4 [(.e 2 (.imm 1 ((tuB t).map encI++t.args1.map encI)))] [] [2] [] [.b (PX.lenIs (((tuB t).map encI:List (List PX.PV)).length+(t.args1.map encI).length) ((tuB t).map encI++t.args1.map encI))] hS ⟨(by simp [PX.lenIs] <;> omega),trivial⟩
  refine wp_ret ?_
  rw [show (.imm 1 ((termU t).map encI))=((.imm 1 ((tuB t).map encI++t.args1.map encI)):PX.PV) from by rw [termU_eq]; simp_all [encI] <;> first | omega | (intro hq; exfalso; omega)]
  exact PX.rt hS hE (.inl rfl)
 ·skip
  refine wp_skip ?_
  refine hK17 _ _ ?_
  refine PX.G0 [(.e 26 (.J 2))] [] 4 [] [] [.au,.au] [3,25,26] [2] hS hE trivial fun a w hS=>?_
  show Code.rounds _ _ _ 1 _ _
  rw [rounds_succ]
  refine PX.G [(.e 27 (.sc (.bool false)))] [] 4 [] [] [.au] [3,25,26,27] [2] hS hE trivial fun a w hS=>?_
  refine wp_seq_k fun K21 hK21=>?_
  refine PX.cond_s false hS (by kernel_rfl) (fun h22=>nomatch h22) (fun h22=>?_)
  refine wp_exit ?_
  refine hK11 _ _ ?_
  refine PX.G [(.e 2 (.own 2 1 ((tuB t).length)))] [] 4 [] [] [.au,.au] [2] [2] hS hE trivial fun a w hS=>?_
  replace hS:=PX.fz 2 [(.e 2 (.imm 1 ((tuB t).map encI)))] [] [2] [] [.b (PX.lenIs ((tuB t).length) ((tuB t).map encI))] hS ⟨(by simp [PX.lenIs] <;> omega),trivial⟩
  refine wp_ret ?_
  rw [show (.imm 1 ((termU t).map encI))=((.imm 1 ((tuB t).map encI)):PX.PV) from by rw [termU_eq]; simp_all [encI] <;> first | omega | (intro hq; exfalso; omega)]
  exact PX.rt hS hE (.inl rfl)

/-- what markUses does -/
def M144 (cn:Nat) (b:BlockD):Prop:=∀ (df l:List Int),df.length=cn→l.length=cn→PX.Con Try.prog 144 [(.agg (encB b)),.own 3 1 cn,.fn 140 [] [.ptr 1 0]] [(1,.box 35 [.own 2 1 cn]),(2,.row 3 1 true (l.map encI)),(3,.row 3 1 true (df.map encI))] 4 100000 (.tup []) [(1,some (.box 35 [.own 2 1 cn])),(2,some (.row 3 1 true ((markK df b.ops l b.ops.length).2.map encI))),(3,some (.row 3 1 true (df.map encI)))]
end Go.Proofs.Ytlkcidmmpeebeaa
