/- Proved: small functions of the sink -/
import Derived.Test.YtlkcidmmpeebeaaPv2
import Derived.Test.YtlkcidmmpeebeaaPcD
set_option linter.unusedVariables false
set_option linter.unusedSimpArgs false
namespace Go.Proofs.Ytlkcidmmpeebeaa
open Go.RowKit Go.PX
set_option maxRecDepth 100000
def movesD (k:Int):Bool:=decide (1≤k)&&decide (k≤14)
def usesAD (k:Int):Bool:=decide (2≤k)&&decide (k≤16)||decide (k=18)
def usesBD (k:Int):Bool:=decide (3≤k)&&decide (k≤14)||decide (k=16)

set_option maxHeartbeats 400000 in
theorem con_f79 (k:Int):PX.Con Try.prog 79 [(.J k)] [] 1 100000 (.sc (.bool (movesD k))) []:=by
 refine PX.con_intro [(.J k)] 9 Try.func79 rfl rfl (by kernel_rfl) (by kernel_rfl) ?_
 intro E a hE hS
 generalize E.w0=w at hS ⊢
 have mix:=mixed
 refine wp_seq_k fun K1 hK1=>?_
 refine PX.region_s (T:=[(.e 0 (.J k))]) (H':=[]) (nx':=1) (obs:=[]) [] [.au] [0] [] hS (by kernel_rfl) (by kernel_rfl) (by kernel_rfl) (hE.le (by decide)) trivial ?_
 clear hS; intro a w hS
 refine hK1 _ _ ?_
 refine wp_seq_k fun K2 hK2=>?_
 refine PX.region_s (T:=[(.e 2 (.sc (.bool (decide (1≤k)&&decide (k≤14)))))]) (H':=[]) (nx':=1) (obs:=[]) [(2,decide (1≤k))] [.au,.au,.au,.au,.au,.pk,.au] [2] [] hS (by kernel_rfl) (by kernel_rfl) (by kernel_rfl) (hE.le (by decide)) trivial ?_
 clear hS; intro a w hS
 refine hK2 _ _ ?_
 refine wp_ret ?_
 try simp only [Exit.then,Exit.inBlock,Nat.reduceEqDiff,↓reduceIte]
 exact PX.ret_s hS hE (by kernel_rfl) (by kernel_rfl) (by kernel_rfl) (.inl rfl)

set_option maxHeartbeats 400000 in
theorem con_f121 (k:Int):PX.Con Try.prog 121 [(.J k)] [] 1 100000 (.sc (.bool (movesD k))) []:=by
 refine PX.con_intro [(.J k)] 9 Try.func121 rfl rfl (by kernel_rfl) (by kernel_rfl) ?_
 intro E a hE hS
 generalize E.w0=w at hS ⊢
 have mix:=mixed
 refine wp_seq_k fun K1 hK1=>?_
 refine PX.region_s (T:=[(.e 0 (.J k))]) (H':=[]) (nx':=1) (obs:=[]) [] [.au] [0] [] hS (by kernel_rfl) (by kernel_rfl) (by kernel_rfl) (hE.le (by decide)) trivial ?_
 clear hS; intro a w hS
 refine hK1 _ _ ?_
 refine wp_seq_k fun K2 hK2=>?_
 refine PX.region_s (T:=[(.e 2 (.sc (.bool (decide (1≤k)&&decide (k≤14)))))]) (H':=[]) (nx':=1) (obs:=[]) [(2,decide (1≤k))] [.au,.au,.au,.au,.au,.pk,.au] [2] [] hS (by kernel_rfl) (by kernel_rfl) (by kernel_rfl) (hE.le (by decide)) trivial ?_
 clear hS; intro a w hS
 refine hK2 _ _ ?_
 refine wp_ret ?_
 try simp only [Exit.then,Exit.inBlock,Nat.reduceEqDiff,↓reduceIte]
 exact PX.ret_s hS hE (by kernel_rfl) (by kernel_rfl) (by kernel_rfl) (.inl rfl)

set_option maxHeartbeats 400000 in
theorem con_f88 (k:Int):PX.Con Try.prog 88 [(.J k)] [] 1 100000 (.sc (.bool (usesAD k))) []:=by
 refine PX.con_intro [(.J k)] 13 Try.func88 rfl rfl (by kernel_rfl) (by kernel_rfl) ?_
 intro E a hE hS
 generalize E.w0=w at hS ⊢
 have mix:=mixed
 refine wp_seq_k fun K1 hK1=>?_
 refine PX.region_s (T:=[(.e 0 (.J k))]) (H':=[]) (nx':=1) (obs:=[]) [] [.au] [0] [] hS (by kernel_rfl) (by kernel_rfl) (by kernel_rfl) (hE.le (by decide)) trivial ?_
 clear hS; intro a w hS
 refine hK1 _ _ ?_
 refine wp_seq_k fun K2 hK2=>?_
 refine PX.region_s (T:=[(.e 2 (.sc (.bool ((decide (2≤k)&&decide (k≤16))||(k==18)))))]) (H':=[]) (nx':=1) (obs:=[]) [(2,decide (2≤k)),(6,(decide (2≤k)&&decide (k≤16)))] [.au,.au,.au,.au,.au,.pk,.au,.au,.au,.pk,.au] [2] [] hS (by kernel_rfl) (by kernel_rfl) (by kernel_rfl) (hE.le (by decide)) trivial ?_
 clear hS; intro a w hS
 refine hK2 _ _ ?_
 refine wp_ret ?_
 try simp only [Exit.then,Exit.inBlock,Nat.reduceEqDiff,↓reduceIte]
 exact PX.ret_s hS hE (by kernel_rfl) (by kernel_rfl) (by kernel_rfl) (.inl rfl)

set_option maxHeartbeats 400000 in
theorem con_f89 (k:Int):PX.Con Try.prog 89 [(.J k)] [] 1 100000 (.sc (.bool (usesBD k))) []:=by
 refine PX.con_intro [(.J k)] 13 Try.func89 rfl rfl (by kernel_rfl) (by kernel_rfl) ?_
 intro E a hE hS
 generalize E.w0=w at hS ⊢
 have mix:=mixed
 refine wp_seq_k fun K1 hK1=>?_
 refine PX.region_s (T:=[(.e 0 (.J k))]) (H':=[]) (nx':=1) (obs:=[]) [] [.au] [0] [] hS (by kernel_rfl) (by kernel_rfl) (by kernel_rfl) (hE.le (by decide)) trivial ?_
 clear hS; intro a w hS
 refine hK1 _ _ ?_
 refine wp_seq_k fun K2 hK2=>?_
 refine PX.region_s (T:=[(.e 2 (.sc (.bool ((decide (3≤k)&&decide (k≤14))||(k==16)))))]) (H':=[]) (nx':=1) (obs:=[]) [(2,decide (3≤k)),(6,(decide (3≤k)&&decide (k≤14)))] [.au,.au,.au,.au,.au,.pk,.au,.au,.au,.pk,.au] [2] [] hS (by kernel_rfl) (by kernel_rfl) (by kernel_rfl) (hE.le (by decide)) trivial ?_
 clear hS; intro a w hS
 refine hK2 _ _ ?_
 refine wp_ret ?_
 try simp only [Exit.then,Exit.inBlock,Nat.reduceEqDiff,↓reduceIte]
 exact PX.ret_s hS hE (by kernel_rfl) (by kernel_rfl) (by kernel_rfl) (.inl rfl)
end Go.Proofs.Ytlkcidmmpeebeaa

/- Proved: uses -/
namespace Go.Proofs.Ytlkcidmmpeebeaa
open Go.RowKit Go.PX
set_option maxRecDepth 100000
def usesD (o:OpD) (v:Int):Bool:=usesAD o.kind&&decide (o.a=v)||usesBD o.kind&&decide (o.b=v)

theorem con_f79_any {lo top:Nat} (k:Int):PX.Con Try.prog 79 [.sc (.I k)] [] lo top (.sc (.bool (movesD k))) []:=PX.con_any (con_f79 k)

theorem con_f121_any {lo top:Nat} (k:Int):PX.Con Try.prog 121 [.sc (.I k)] [] lo top (.sc (.bool (movesD k))) []:=PX.con_any (con_f121 k)

theorem con_f88_any {lo top:Nat} (k:Int):PX.Con Try.prog 88 [.sc (.I k)] [] lo top (.sc (.bool (usesAD k))) []:=PX.con_any (con_f88 k)

theorem con_f89_any {lo top:Nat} (k:Int):PX.Con Try.prog 89 [.sc (.I k)] [] lo top (.sc (.bool (usesBD k))) []:=PX.con_any (con_f89 k)

set_option maxHeartbeats 400000 in
theorem con_f80 (o:OpD) (v:Int):PX.Con Try.prog 80 [(.agg (encO o)),(.J v)] [] 1 100000 (.sc (.bool (usesD o v))) []:=by
 refine PX.con_intro [(.agg (encO o)),(.J v)] 25 Try.func80 rfl rfl (by kernel_rfl) (by kernel_rfl) ?_
 intro E a hE hS
 generalize E.w0=w at hS ⊢
 have mix:=mixed
 refine wp_seq_k fun K1 hK1=>?_
 refine PX.region_s (T:=[(.e 1 (.J v)),(.e 2 (.ptr 1 0))]) (H':=[(1,.box 74 (encO o))]) (nx':=2) (obs:=[]) [] [.au,.au] [1,2] [1] hS (by kernel_rfl) (by kernel_rfl) (by kernel_rfl) (hE.le (by decide)) trivial ?_
 clear hS; intro a w hS
 refine hK1 _ _ ?_
 refine wp_seq_k fun K2 hK2=>?_
 refine PX.region_s (T:=[(.e 4 (.sc (.bool (((usesAD o.kind)&&(o.a==v))||((usesBD o.kind)&&(o.b==v))))))]) (H':=[]) (nx':=2) (obs:=[.q (PX.Con Try.prog 88 [(.J o.kind)] [] 2 2 (.sc (.bool (usesAD o.kind))) []),.q (SX.pv [(3,(usesAD o.kind)),(9,((usesAD o.kind)&&(o.a==v))),(13,(usesBD o.kind))] [(9,false)]=true→PX.AllOb [.q (PX.Con Try.prog 89 [(.J o.kind)] [] 2 2 (.sc (.bool (usesBD o.kind))) [])])]) [(3,(usesAD o.kind)),(9,((usesAD o.kind)&&(o.a==v))),(13,(usesBD o.kind))] [.au,.au,.cl [] (.sc (.bool (usesAD o.kind))) [] 2,.au,.au,.au,.au,.au,.pk,.au,.au,.au,.cl [] (.sc (.bool (usesBD o.kind))) [] 2,.au,.au,.au,.au,.au,.pk,.pk,.au] [4] [] hS (by kernel_rfl) (by kernel_rfl) (by kernel_rfl) (hE.le (by decide)) ⟨con_f88_any o.kind,fun hg=>⟨con_f89_any o.kind,trivial⟩,trivial⟩ ?_
 clear hS; intro a w hS
 refine hK2 _ _ ?_
 refine wp_ret ?_
 try simp only [Exit.then,Exit.inBlock,Nat.reduceEqDiff,↓reduceIte]
 exact PX.ret_s hS hE (by kernel_rfl) (by kernel_rfl) (by kernel_rfl) (.inl rfl)
end Go.Proofs.Ytlkcidmmpeebeaa

/- Proved: uses of the program -/
namespace Go.Proofs.Ytlkcidmmpeebeaa
open Go.RowKit Go.PX
set_option maxRecDepth 100000
theorem usesD_if (o:OpD) (v:Int):usesD o v=bif (o.kind==2||(o.kind==15||o.kind==18)) then o.a==v else bif (decide (3≤o.kind)&&decide (o.kind≤14))||o.kind==16 then o.a==v||o.b==v else false:=by
 have ha:(o.a==v)=decide (o.a=v):=by rw [Bool.eq_iff_iff]; simp
 have hb:(o.b==v)=decide (o.b=v):=by rw [Bool.eq_iff_iff]; simp
 rw [ha,hb]
 unfold usesD usesAD usesBD
 generalize o.kind=k
 by_cases h1:k=2∨k=15∨k=18
 ·rcases h1 with rfl | rfl | rfl <;> simp
 ·by_cases h2:(3≤k∧k≤14)∨k=16
  ·rcases h2 with ⟨h2,h3⟩ | rfl
   ·have e1:(k==2)=false:=by simp; omega
    have e2:(k==15)=false:=by simp; omega
    have e3:(k==18)=false:=by simp; omega
    have e4:decide (k=18)=false:=by simp; omega
    have e5:decide (k=16)=false:=by simp; omega
    have e6:decide (2≤k)=true:=by simp; omega
    have e7:decide (k≤16)=true:=by simp; omega
    simp [e1,e2,e3,e4,e5,e6,e7,h2,h3]
   ·simp
  ·have e1:(k==2)=false:=by simp; omega
   have e2:(k==15)=false:=by simp; omega
   have e3:(k==18)=false:=by simp; omega
   have e4:decide (k=18)=false:=by simp; omega
   have e5:(decide (3≤k)&&decide (k≤14))=false:=by simp; omega
   have e6:decide (k=16)=false:=by simp; omega
   have e7:(decide (2≤k)&&decide (k≤16))=false:=by simp; omega
   have e8:(k==16)=false:=by simp; omega
   simp [e1,e2,e3,e4,e5,e6,e7,e8]

set_option maxHeartbeats 400000 in
theorem con_f124 (o:OpD) (v:Int):PX.Con Try.prog 124 [(.agg (encO o)),(.J v)] [] 1 100000 (.sc (.bool (usesD o v))) []:=by
 refine PX.con_intro [(.agg (encO o)),(.J v)] 41 Try.func124 rfl rfl (by kernel_rfl) (by kernel_rfl) ?_
 intro E a hE hS
 generalize E.w0=w at hS ⊢
 have mix:=mixed
 refine wp_seq_k fun K1 hK1=>?_
 refine PX.region_s (T:=[(.e 1 (.J v)),(.e 2 (.ptr 1 0))]) (H':=[(1,.box 74 (encO o))]) (nx':=2) (obs:=[]) [] [.au,.au] [1,2] [1] hS (by kernel_rfl) (by kernel_rfl) (by kernel_rfl) (hE.le (by decide)) trivial ?_
 clear hS; intro a w hS
 refine hK1 _ _ ?_
 refine wp_seq_k fun K2 hK2=>?_
 refine wp_block ?_
 refine wp_seq_k fun K3 hK3=>?_
 refine wp_seq_k fun K4 hK4=>?_
 refine PX.region_s (T:=[(.e 1 (.J v)),(.e 2 (.ptr 1 0)),(.e 5 (.sc (.bool (o.kind==2))))]) (H':=[(1,.box 74 (encO o))]) (nx':=2) (obs:=[]) [] [.au,.au,.au,.au] [1,2,5] [1] hS (by kernel_rfl) (by kernel_rfl) (by kernel_rfl) (hE.le (by decide)) trivial ?_
 clear hS; intro a w hS
 refine hK4 _ _ ?_
 refine PX.cond_s (o.kind==2) hS (by kernel_rfl) (fun h5=>?_) (fun h5=>?_)
 ·skip
  refine wp_skip ?_
  refine hK3 _ _ ?_
  refine PX.cond_s (o.kind==2) hS (by kernel_rfl) (fun h6=>?_) (fun h6=>nomatch (h5.symm.trans h6))
  refine wp_seq_k fun K7 hK7=>?_
  refine PX.region_s (T:=[(.e 4 (.sc (.bool (o.a==v))))]) (H':=[]) (nx':=2) (obs:=[]) [] [.au,.au,.au,.au,.au] [4] [] hS (by kernel_rfl) (by kernel_rfl) (by kernel_rfl) (hE.le (by decide)) trivial ?_
  clear hS; intro a w hS
  refine hK7 _ _ ?_
  refine wp_ret ?_
  try simp only [Exit.then,Exit.inBlock,Nat.reduceEqDiff,↓reduceIte]
  rw [show (.sc (.bool (usesD o v)))=((.sc (.bool (o.a==v))):PX.PV) from by rw [show usesD o v=(o.a==v) from by rw [usesD_if]; simp only [h5,Bool.true_or,Bool.false_or,Bool.or_true,Bool.or_false,cond_true,cond_false]]]
  exact PX.ret_s hS hE (by kernel_rfl) (by kernel_rfl) (by kernel_rfl) (.inl rfl)
 ·skip
  refine wp_seq_k fun K8 hK8=>?_
  refine PX.region_s (T:=[(.e 1 (.J v)),(.e 2 (.ptr 1 0)),(.e 5 (.sc (.bool (o.kind==15))))]) (H':=[(1,.box 74 (encO o))]) (nx':=2) (obs:=[]) [] [.au,.au,.au,.au] [1,2,5] [1] hS (by kernel_rfl) (by kernel_rfl) (by kernel_rfl) (hE.le (by decide)) trivial ?_
  clear hS; intro a w hS
  refine hK8 _ _ ?_
  refine PX.cond_s (o.kind==15) hS (by kernel_rfl) (fun h9=>?_) (fun h9=>?_)
  ·skip
   refine wp_skip ?_
   refine hK3 _ _ ?_
   refine PX.cond_s (o.kind==15) hS (by kernel_rfl) (fun h10=>?_) (fun h10=>nomatch (h9.symm.trans h10))
   refine wp_seq_k fun K11 hK11=>?_
   refine PX.region_s (T:=[(.e 4 (.sc (.bool (o.a==v))))]) (H':=[]) (nx':=2) (obs:=[]) [] [.au,.au,.au,.au,.au] [4] [] hS (by kernel_rfl) (by kernel_rfl) (by kernel_rfl) (hE.le (by decide)) trivial ?_
   clear hS; intro a w hS
   refine hK11 _ _ ?_
   refine wp_ret ?_
   try simp only [Exit.then,Exit.inBlock,Nat.reduceEqDiff,↓reduceIte]
   rw [show (.sc (.bool (usesD o v)))=((.sc (.bool (o.a==v))):PX.PV) from by rw [show usesD o v=(o.a==v) from by rw [usesD_if]; simp only [h5,h9,Bool.true_or,Bool.false_or,Bool.or_true,Bool.or_false,cond_true,cond_false]]]
   exact PX.ret_s hS hE (by kernel_rfl) (by kernel_rfl) (by kernel_rfl) (.inl rfl)
  ·skip
   refine PX.region_s (T:=[(.e 1 (.J v)),(.e 2 (.ptr 1 0)),(.e 5 (.sc (.bool (o.kind==18))))]) (H':=[(1,.box 74 (encO o))]) (nx':=2) (obs:=[]) [] [.au,.au,.au,.au] [1,2,5] [1] hS (by kernel_rfl) (by kernel_rfl) (by kernel_rfl) (hE.le (by decide)) trivial ?_
   clear hS; intro a w hS
   refine hK3 _ _ ?_
   refine PX.cond_s (o.kind==18) hS (by kernel_rfl) (fun h12=>?_) (fun h12=>?_)
   ·skip
    refine wp_seq_k fun K13 hK13=>?_
    refine PX.region_s (T:=[(.e 4 (.sc (.bool (o.a==v))))]) (H':=[]) (nx':=2) (obs:=[]) [] [.au,.au,.au,.au,.au] [4] [] hS (by kernel_rfl) (by kernel_rfl) (by kernel_rfl) (hE.le (by decide)) trivial ?_
    clear hS; intro a w hS
    refine hK13 _ _ ?_
    refine wp_ret ?_
    try simp only [Exit.then,Exit.inBlock,Nat.reduceEqDiff,↓reduceIte]
    rw [show (.sc (.bool (usesD o v)))=((.sc (.bool (o.a==v))):PX.PV) from by rw [show usesD o v=(o.a==v) from by rw [usesD_if]; simp only [h5,h9,h12,Bool.true_or,Bool.false_or,Bool.or_true,Bool.or_false,cond_true,cond_false]]]
    exact PX.ret_s hS hE (by kernel_rfl) (by kernel_rfl) (by kernel_rfl) (.inl rfl)
   ·skip
    refine wp_seq_k fun K14 hK14=>?_
    refine wp_seq_k fun K15 hK15=>?_
    refine PX.region_s (T:=[(.e 1 (.J v)),(.e 2 (.ptr 1 0)),(.e 19 (.sc (.bool (decide (3≤o.kind)&&decide (o.kind≤14)))))]) (H':=[(1,.box 74 (encO o))]) (nx':=2) (obs:=[]) [(3,decide (3≤o.kind))] [.au,.au,.au,.au,.au,.au,.au,.pk,.au] [1,2,19] [1] hS (by kernel_rfl) (by kernel_rfl) (by kernel_rfl) (hE.le (by decide)) trivial ?_
    clear hS; intro a w hS
    refine hK15 _ _ ?_
    refine PX.cond_s (decide (3≤o.kind)&&decide (o.kind≤14)) hS (by kernel_rfl) (fun h16=>?_) (fun h16=>?_)
    ·skip
     refine wp_skip ?_
     refine hK14 _ _ ?_
     refine PX.cond_s (decide (3≤o.kind)&&decide (o.kind≤14)) hS (by kernel_rfl) (fun h17=>?_) (fun h17=>nomatch (h16.symm.trans h17))
     refine wp_seq_k fun K18 hK18=>?_
     refine PX.region_s (T:=[(.e 4 (.sc (.bool ((o.a==v)||(o.b==v)))))]) (H':=[]) (nx':=2) (obs:=[]) [(4,(o.a==v))] [.au,.au,.au,.au,.au,.au,.au,.au,.au,.pk,.au] [4] [] hS (by kernel_rfl) (by kernel_rfl) (by kernel_rfl) (hE.le (by decide)) trivial ?_
     clear hS; intro a w hS
     refine hK18 _ _ ?_
     refine wp_ret ?_
     try simp only [Exit.then,Exit.inBlock,Nat.reduceEqDiff,↓reduceIte]
     rw [show (.sc (.bool (usesD o v)))=((.sc (.bool ((o.a==v)||(o.b==v)))):PX.PV) from by rw [show usesD o v=((o.a==v)||(o.b==v)) from by rw [usesD_if]; simp only [h5,h9,h12,h16,Bool.true_or,Bool.false_or,Bool.or_true,Bool.or_false,cond_true,cond_false]]]
     exact PX.ret_s hS hE (by kernel_rfl) (by kernel_rfl) (by kernel_rfl) (.inl rfl)
    ·skip
     refine PX.region_s (T:=[(.e 1 (.J v)),(.e 2 (.ptr 1 0)),(.e 19 (.sc (.bool (o.kind==16))))]) (H':=[(1,.box 74 (encO o))]) (nx':=2) (obs:=[]) [] [.au,.au,.au,.au] [1,2,19] [1] hS (by kernel_rfl) (by kernel_rfl) (by kernel_rfl) (hE.le (by decide)) trivial ?_
     clear hS; intro a w hS
     refine hK14 _ _ ?_
     refine PX.cond_s (o.kind==16) hS (by kernel_rfl) (fun h19=>?_) (fun h19=>?_)
     ·skip
      refine wp_seq_k fun K20 hK20=>?_
      refine PX.region_s (T:=[(.e 4 (.sc (.bool ((o.a==v)||(o.b==v)))))]) (H':=[]) (nx':=2) (obs:=[]) [(4,(o.a==v))] [.au,.au,.au,.au,.au,.au,.au,.au,.au,.pk,.au] [4] [] hS (by kernel_rfl) (by kernel_rfl) (by kernel_rfl) (hE.le (by decide)) trivial ?_
      clear hS; intro a w hS
      refine hK20 _ _ ?_
      refine wp_ret ?_
      try simp only [Exit.then,Exit.inBlock,Nat.reduceEqDiff,↓reduceIte]
      rw [show (.sc (.bool (usesD o v)))=((.sc (.bool ((o.a==v)||(o.b==v)))):PX.PV) from by rw [show usesD o v=((o.a==v)||(o.b==v)) from by rw [usesD_if]; simp only [h5,h9,h12,h16,h19,Bool.true_or,Bool.false_or,Bool.or_true,Bool.or_false,cond_true,cond_false]]]
      exact PX.ret_s hS hE (by kernel_rfl) (by kernel_rfl) (by kernel_rfl) (.inl rfl)
     ·skip
      refine wp_skip ?_
      refine hK2 _ _ ?_
      refine wp_seq_k fun K21 hK21=>?_
      refine PX.region_s (T:=[(.e 4 (.sc (.bool false)))]) (H':=[]) (nx':=2) (obs:=[]) [] [.au] [4] [] hS (by kernel_rfl) (by kernel_rfl) (by kernel_rfl) (hE.le (by decide)) trivial ?_
      clear hS; intro a w hS
      refine hK21 _ _ ?_
      refine wp_ret ?_
      try simp only [Exit.then,Exit.inBlock,Nat.reduceEqDiff,↓reduceIte]
      rw [show (.sc (.bool (usesD o v)))=((.sc (.bool false)):PX.PV) from by rw [show usesD o v=false from by rw [usesD_if]; simp only [h5,h9,h12,h16,h19,Bool.true_or,Bool.false_or,Bool.or_true,Bool.or_false,cond_true,cond_false]]]
      exact PX.ret_s hS hE (by kernel_rfl) (by kernel_rfl) (by kernel_rfl) (.inl rfl)
end Go.Proofs.Ytlkcidmmpeebeaa

/- Proved: the closure of order -/
namespace Go.Proofs.Ytlkcidmmpeebeaa
open Go.RowKit Go.PX
set_option maxRecDepth 100000
theorem con_f124_any {lo top:Nat} (o:OpD) (v:Int):PX.Con Try.prog 124 [.agg (encO o),.sc (.I v)] [] lo top (.sc (.bool (usesD o v))) []:=PX.con_any (con_f124 o v)

set_option maxHeartbeats 400000 in
theorem con_f123 (u o:OpD):PX.Con Try.prog 123 [(.agg (encO u)),(.ptr 1 0)] [(1,.box 74 (encO o))] 2 100000 (.sc (.bool (usesD u o.dst))) [(1,some (.box 74 (encO o)))]:=by
 refine PX.con_intro [(.agg (encO u)),(.ptr 1 0)] 8 Try.func123 rfl rfl (by kernel_rfl) (by kernel_rfl) ?_
 intro E a hE hS
 generalize E.w0=w at hS ⊢
 have mix:=mixed
 refine wp_seq_k fun K1 hK1=>?_
 refine PX.region_s (T:=[(.e 1 (.ptr 1 0)),(.e 2 (.ptr 2 0))]) (H':=[(1,.box 74 (encO o)),(2,.box 74 (encO u))]) (nx':=3) (obs:=[]) [] [.au,.au] [1,2] [1,2] hS (by kernel_rfl) (by kernel_rfl) (by kernel_rfl) (hE.le (by decide)) trivial ?_
 clear hS; intro a w hS
 refine hK1 _ _ ?_
 refine wp_seq_k fun K2 hK2=>?_
 refine PX.region_s (T:=[(.e 1 (.ptr 1 0)),(.e 3 (.sc (.bool (usesD u o.dst))))]) (H':=[(1,.box 74 (encO o))]) (nx':=3) (obs:=[.q (PX.Con Try.prog 124 [(.agg (encO u)),(.J o.dst)] [] 3 3 (.sc (.bool (usesD u o.dst))) [])]) [] [.au,.au,.au,.cl [] (.sc (.bool (usesD u o.dst))) [] 3,.au] [1,3] [1] hS (by kernel_rfl) (by kernel_rfl) (by kernel_rfl) (hE.le (by decide)) ⟨con_f124_any u o.dst,trivial⟩ ?_
 clear hS; intro a w hS
 refine hK2 _ _ ?_
 refine wp_ret ?_
 try simp only [Exit.then,Exit.inBlock,Nat.reduceEqDiff,↓reduceIte]
 exact PX.ret_s hS hE (by kernel_rfl) (by kernel_rfl) (by kernel_rfl) (.inl rfl)
end Go.Proofs.Ytlkcidmmpeebeaa

/- Proved: IndexFunc -/
namespace Go.Proofs.Ytlkcidmmpeebeaa
open Go.RowKit Go.PX
set_option maxRecDepth 100000
def idxD (xs:List OpD) (v:Int):Int:=match xs.findIdx? (fun u=>usesD u v) with | some k=>(k:Int) | none=>-1
theorem idxD_at {xs:List OpD} {v:Int} {k:Nat} {y:OpD} (h:Upto xs (fun _ b=>!usesD b v) k) (hy:xs[k]?=some y) (hu:usesD y v=true):idxD xs v=(k:Int):=by
 have hk:k<xs.length:=(List.getElem?_eq_some_iff.1 hy).1
 have e:xs.findIdx? (fun u=>usesD u v)=some k:=by
  rw [List.findIdx?_eq_some_iff_getElem]
  refine ⟨hk,?_,fun j hj=>?_⟩
  ·have:xs[k]=y:=(List.getElem?_eq_some_iff.1 hy).2
   rw [this]; exact hu
  ·have:=h j (xs[j]'(by omega)) hj (List.getElem?_eq_getElem (by omega))
   simpa using this
 unfold idxD; rw [e]
theorem idxD_none {xs:List OpD} {v:Int} {k:Nat} (h:Upto xs (fun _ b=>!usesD b v) k) (hk:xs.length≤k):idxD xs v=-1:=by
 have e:xs.findIdx? (fun u=>usesD u v)=none:=by
  rw [List.findIdx?_eq_none_iff]
  intro x hx
  obtain ⟨j,hj⟩:=List.getElem?_of_mem hx
  have:=h j x (by have:=(List.getElem?_eq_some_iff.1 hj).1; omega) hj
  simpa using this
 unfold idxD; rw [e]
theorem con_f123_any {lo top:Nat} (u o:OpD):PX.Con Try.prog 123 [.agg (encO u),.ptr 1 0] [(1,.box 74 (encO o))] lo top (.sc (.bool (usesD u o.dst))) [(1,some (.box 74 (encO o)))] :=
 PX.con_anyH (con_f123 u o) (by kernel_rfl) (fun id o' h=>by
  simp only [PX.ulook] at h
  cases hb:Nat.beq 1 id with
  | true=>rw [hb] at h; simp only [cond_true,Option.some.injEq] at h; rw [← Nat.eq_of_beq_eq_true hb,← h]; exact ⟨rfl,rfl⟩
  | false=>rw [hb] at h; simp at h) (by kernel_rfl) (by kernel_rfl) (by kernel_rfl)

set_option maxHeartbeats 400000 in
theorem con_f122 (xs:List OpD) (o:OpD) (hl:xs.length≤140737488351232):PX.Con Try.prog 122 [(.own 2 11 xs.length),(.fn 123 [] [(.ptr 1 0)])] [(1,.box 74 (encO o)),(2,.row 74 11 true (xs.map encO))] 3 100000 (.sc (.I (idxD xs o.dst))) [(1,some (.box 74 (encO o))),(2,some (.row 74 11 true (xs.map encO)))]:=by
 refine PX.con_intro [(.own 2 11 xs.length),(.fn 123 [] [(.ptr 1 0)])] 19 Try.func122 rfl rfl (by kernel_rfl) (by kernel_rfl) ?_
 intro E a hE hS
 generalize E.w0=w at hS ⊢
 have mix:=mixed
 refine wp_seq_k fun K1 hK1=>?_
 refine PX.region_s (T:=[(.e 0 (.own 2 11 xs.length)),(.e 1 (.fn 123 [] [(.ptr 1 0)]))]) (H':=[(1,.box 74 (encO o)),(2,.row 74 11 true (xs.map encO))]) (nx':=3) (obs:=[]) [] [.au] [0,1] [1,2] hS (by kernel_rfl) (by kernel_rfl) (by kernel_rfl) (hE.le (by decide)) trivial ?_
 clear hS; intro a w hS
 refine hK1 _ _ ?_
 refine wp_seq_k fun K2 hK2=>?_
 refine wp_seq_k fun K3 hK3=>?_
 refine PX.region_s (T:=[(.e 0 (.own 2 11 xs.length)),(.e 1 (.fn 123 [] [(.ptr 1 0)])),(.e 7 (.sc (.I ((xs.length:Nat):Int)))),(.e 8 (.J 0))]) (H':=[(1,.box 74 (encO o)),(2,.row 74 11 true (xs.map encO))]) (nx':=3) (obs:=[]) [] [.au,.au,.au] [0,1,7,8] [1,2] hS (by kernel_rfl) (by kernel_rfl) (by kernel_rfl) (hE.le (by decide)) trivial ?_
 clear hS; intro a w hS
 refine hK3 _ _ ?_
 refine wp_block ?_
 refine wp_loop_ghost (fun m4 a' w'=>∃ k:Nat,m4=xs.length-k∧k≤xs.length∧Upto xs (fun _ b=>!usesD b o.dst) (k)∧PX.Sat E 19 [(.e 0 (.own 2 11 xs.length)),(.e 1 (.fn 123 [] [(.ptr 1 0)])),(.e 7 (.sc (.I ((xs.length:Nat):Int)))),(.e 8 (.sc (.I ((k:Nat):Int))))] [(1,.box 74 (encO o)),(2,.row 74 11 true (xs.map encO))] 3 a' w') (xs.length-0) ⟨0,rfl,Nat.zero_le _,Upto.zero,(PX.canon [] [(.e 0 (.own 2 11 xs.length)),(.e 1 (.fn 123 [] [(.ptr 1 0)])),(.e 7 (.sc (.I ((xs.length:Nat):Int)))),(.e 8 (.sc (.I ((0:Nat):Int))))] [(1,.box 74 (encO o)),(2,.row 74 11 true (xs.map encO))] 3 hS hE (by kernel_rfl) (by kernel_rfl) (by kernel_rfl))⟩ ?_
 clear hS; rintro m4 a w ⟨k,hm4,hlek,hIk,hS⟩
 refine wp_seq_k fun K5 hK5=>?_
 refine PX.region_s (T:=[(.e 0 (.own 2 11 xs.length)),(.e 1 (.fn 123 [] [(.ptr 1 0)])),(.e 7 (.sc (.I ((xs.length:Nat):Int)))),(.e 8 (.sc (.I ((k:Nat):Int)))),(.e 9 (.sc (.bool (decide (((k:Nat):Int)<((xs.length:Nat):Int))))))]) (H':=[(1,.box 74 (encO o)),(2,.row 74 11 true (xs.map encO))]) (nx':=3) (obs:=[]) [] [.au] [0,1,7,8,9] [1,2] hS (by kernel_rfl) (by kernel_rfl) (by kernel_rfl) (hE.le (by decide)) trivial ?_
 clear hS; intro a w hS
 refine hK5 _ _ ?_
 refine wp_seq_k fun K6 hK6=>?_
 refine PX.cond_s (decide (((k:Nat):Int)<((xs.length:Nat):Int))) hS (by kernel_rfl) (fun h7=>?_) (fun h7=>?_)
 ·skip
  refine wp_skip ?_
  refine hK6 _ _ ?_
  refine wp_seq_k fun K8 hK8=>?_
  refine wp_block ?_
  refine wp_seq_k fun K9 hK9=>?_
  refine PX.region_s (T:=[(.e 0 (.own 2 11 xs.length)),(.e 1 (.fn 123 [] [(.ptr 1 0)])),(.e 5 (.sc (.I ((k:Nat):Int)))),(.e 7 (.sc (.I ((xs.length:Nat):Int)))),(.e 8 (.sc (.I ((k:Nat):Int))))]) (H':=[(1,.box 74 (encO o)),(2,.row 74 11 true (xs.map encO))]) (nx':=3) (obs:=[]) [] [.au,.au] [0,1,5,7,8] [1,2] hS (by kernel_rfl) (by kernel_rfl) (by kernel_rfl) (hE.le (by decide)) trivial ?_
  clear hS; intro a w hS
  refine hK9 _ _ ?_
  refine wp_seq_k fun K10 hK10=>?_
  have hlty:k<xs.length:=by simpa using h7
  obtain ⟨y,hy⟩:=get_of_lt hlty
  refine PX.region_s (T:=[(.e 0 (.own 2 11 xs.length)),(.e 1 (.fn 123 [] [(.ptr 1 0)])),(.e 5 (.sc (.I ((k:Nat):Int)))),(.e 7 (.sc (.I ((xs.length:Nat):Int)))),(.e 8 (.sc (.I ((k:Nat):Int)))),(.e 16 (.sc (.bool (usesD y o.dst))))]) (H':=[(1,.box 74 (encO o)),(2,.row 74 11 true (xs.map encO))]) (nx':=3) (obs:=[.q (((k:Nat):Int)=((k:Nat):Int)),.q (k<xs.length),.q ((xs.map encO)[k]?=some (encO y)),.q (PX.Con Try.prog 123 [(.agg (encO y)),(.ptr 1 0)] [(1,.box 74 (encO o))] 3 3 (.sc (.bool (usesD y o.dst))) [(1,some (.box 74 (encO o)))])]) [] [.au,.au,.au,.ix k [],.lr (encO y),.cl [1] (.sc (.bool (usesD y o.dst))) [(1,some (.box 74 (encO o)))] 3] [0,1,5,7,8,16] [1,2] hS (by kernel_rfl) (by kernel_rfl) (by kernel_rfl) (hE.le (by decide)) ⟨rfl,hlty,PX.map_get hy,con_f123_any y o,trivial⟩ ?_
  clear hS; intro a w hS
  refine hK10 _ _ ?_
  refine PX.cond_s (usesD y o.dst) hS (by kernel_rfl) (fun h11=>?_) (fun h11=>?_)
  ·skip
   refine wp_seq_k fun K12 hK12=>?_
   refine PX.region_s (T:=[(.e 0 (.own 2 11 xs.length)),(.e 1 (.fn 123 [] [(.ptr 1 0)])),(.e 4 (.sc (.I ((k:Nat):Int)))),(.e 7 (.sc (.I ((xs.length:Nat):Int)))),(.e 8 (.sc (.I ((k:Nat):Int))))]) (H':=[(1,.box 74 (encO o)),(2,.row 74 11 true (xs.map encO))]) (nx':=3) (obs:=[]) [] [.au,.au] [0,1,4,7,8] [1,2] hS (by kernel_rfl) (by kernel_rfl) (by kernel_rfl) (hE.le (by decide)) trivial ?_
   clear hS; intro a w hS
   refine hK12 _ _ ?_
   refine wp_ret ?_
   try simp only [Exit.then,Exit.inBlock,Nat.reduceEqDiff,↓reduceIte]
   rw [show (.sc (.I (idxD xs o.dst)))=((.sc (.I ((k:Nat):Int))):PX.PV) from by rw [idxD_at hIk hy h11]]
   exact PX.ret_s hS hE (by kernel_rfl) (by kernel_rfl) (by kernel_rfl) (.inl rfl)
  ·skip
   refine wp_skip ?_
   refine hK8 _ _ ?_
   refine PX.region_s (T:=[(.e 0 (.own 2 11 xs.length)),(.e 1 (.fn 123 [] [(.ptr 1 0)])),(.e 7 (.sc (.I ((xs.length:Nat):Int)))),(.e 8 (.sc (.I ((k+1:Nat):Int))))]) (H':=[(1,.box 74 (encO o)),(2,.row 74 11 true (xs.map encO))]) (nx':=3) (obs:=[.q ((.sc (.I (IntKind.i64.wrap (((k:Nat):Int)+1))):PX.PV)=(.sc (.I ((k+1:Nat):Int))))]) [] [.nm (.sc (.I ((k+1:Nat):Int))),.au] [0,1,7,8] [1,2] hS (by kernel_rfl) (by kernel_rfl) (by kernel_rfl) (hE.le (by decide)) ⟨PX.nm_int (by rw [IntWalk.i64_in _ (by omega)]; omega),trivial⟩ ?_
   clear hS; intro a w hS
   exact ⟨xs.length-(k+1),by omega,k+1,rfl,by omega,hIk.step hy (by rw [h11]; rfl),(PX.canon [] [(.e 0 (.own 2 11 xs.length)),(.e 1 (.fn 123 [] [(.ptr 1 0)])),(.e 7 (.sc (.I ((xs.length:Nat):Int)))),(.e 8 (.sc (.I ((k+1:Nat):Int))))] [(1,.box 74 (encO o)),(2,.row 74 11 true (xs.map encO))] 3 hS hE (by kernel_rfl) (by kernel_rfl) (by kernel_rfl))⟩
 ·skip
  refine wp_exit ?_
  refine hK2 _ _ ?_
  refine wp_seq_k fun K13 hK13=>?_
  refine PX.region_s (T:=[(.e 0 (.own 2 11 xs.length)),(.e 1 (.fn 123 [] [(.ptr 1 0)])),(.e 4 (.sc (.I (-1)))),(.e 7 (.sc (.I ((xs.length:Nat):Int)))),(.e 8 (.sc (.I ((k:Nat):Int))))]) (H':=[(1,.box 74 (encO o)),(2,.row 74 11 true (xs.map encO))]) (nx':=3) (obs:=[]) [] [.au] [0,1,4,7,8] [1,2] hS (by kernel_rfl) (by kernel_rfl) (by kernel_rfl) (hE.le (by decide)) trivial ?_
  clear hS; intro a w hS
  refine hK13 _ _ ?_
  refine wp_ret ?_
  try simp only [Exit.then,Exit.inBlock,Nat.reduceEqDiff,↓reduceIte]
  rw [show (.sc (.I (idxD xs o.dst)))=((.sc (.I (-1))):PX.PV) from by rw [idxD_none hIk (le_of_dec h7)]]
  exact PX.ret_s hS hE (by kernel_rfl) (by kernel_rfl) (by kernel_rfl) (.inl rfl)
end Go.Proofs.Ytlkcidmmpeebeaa
