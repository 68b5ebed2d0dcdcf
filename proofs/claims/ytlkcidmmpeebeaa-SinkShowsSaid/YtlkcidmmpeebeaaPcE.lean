/- Proved: small functions of the sink -/
import Derived.Test.YtlkcidmmpeebeaaPv2
import Derived.Test.YtlkcidmmpeebeaaPcD
set_option linter.unusedVariables false
set_option linter.unusedSimpArgs false
namespace Go.Proofs.Ytlkcidmmpeebeaa
open Go.RowKit Go.PX
set_option maxRecDepth 100000
def movesD (k:Int):Bool:=decide (1≤k)&&decide (k≤14)
def usesAD (k:Int):Bool:=decide (2≤k)&&decide (k≤16)||decide (k=18)
def usesBD (k:Int):Bool:=decide (3≤k)&&decide (k≤14)||decide (k=16)

set_option maxHeartbeats 400000 in
theorem con_f121 (k:Int):PX.Con Try.prog 121 [(.J k)] [] 1 100000 (.sc (.bool (movesD k))) []:=by
 refine PX.con_intro [(.J k)] 9 Try.func121 rfl rfl (by kernel_rfl) (by kernel_rfl) ?_
 intro E a hE hS
 generalize E.w0=w at hS ⊢
 have mix:=mixed
 refine PX.G [] [] 1 [] [] [.au] [0] [] hS hE trivial fun a w hS=>?_
 refine PX.G [(.e 2 (.sc (.bool (decide (1≤k)&&decide (k≤14)))))] [] 1 [] [(2,decide (1≤k))] [.au,.au,.au,.au,.au,.pk,.au] [2] [] hS hE trivial fun a w hS=>?_
 refine wp_ret ?_
 try simp only [Exit.then,Exit.inBlock,Nat.reduceEqDiff,↓reduceIte]
 exact PX.ret_s hS hE (by kernel_rfl) (by kernel_rfl) (by kernel_rfl) (.inl rfl)

end Go.Proofs.Ytlkcidmmpeebeaa

/- Proved: uses -/
namespace Go.Proofs.Ytlkcidmmpeebeaa
open Go.RowKit Go.PX
set_option maxRecDepth 100000
def usesD (o:OpD) (v:Int):Bool:=usesAD o.kind&&decide (o.a=v)||usesBD o.kind&&decide (o.b=v)

theorem con_f121_any {lo top:Nat} (k:Int):PX.Con Try.prog 121 [.sc (.I k)] [] lo top (.sc (.bool (movesD k))) []:=PX.con_any (con_f121 k)

end Go.Proofs.Ytlkcidmmpeebeaa

/- Proved: uses of the program -/
namespace Go.Proofs.Ytlkcidmmpeebeaa
open Go.RowKit Go.PX
set_option maxRecDepth 100000
theorem usesD_if (o:OpD) (v:Int):usesD o v=bif (o.kind==2||(o.kind==15||o.kind==18)) then o.a==v else bif (decide (3≤o.kind)&&decide (o.kind≤14))||o.kind==16 then o.a==v||o.b==v else false:=by
 have ha:(o.a==v)=decide (o.a=v):=by rw [Bool.eq_iff_iff]; simp
 have hb:(o.b==v)=decide (o.b=v):=by rw [Bool.eq_iff_iff]; simp
 rw [ha,hb]
 unfold usesD usesAD usesBD
 generalize o.kind=k
 by_cases h1:k=2∨k=15∨k=18
 ·rcases h1 with rfl | rfl | rfl <;> simp
 ·by_cases h2:(3≤k∧k≤14)∨k=16
  ·rcases h2 with ⟨h2,h3⟩ | rfl
   ·have e1:(k==2)=false:=by simp; omega
    have e2:(k==15)=false:=by simp; omega
    have e3:(k==18)=false:=by simp; omega
    have e4:decide (k=18)=false:=by simp; omega
    have e5:decide (k=16)=false:=by simp; omega
    have e6:decide (2≤k)=true:=by simp; omega
    have e7:decide (k≤16)=true:=by simp; omega
    simp [e1,e2,e3,e4,e5,e6,e7,h2,h3]
   ·simp
  ·have e1:(k==2)=false:=by simp; omega
   have e2:(k==15)=false:=by simp; omega
   have e3:(k==18)=false:=by simp; omega
   have e4:decide (k=18)=false:=by simp; omega
   have e5:(decide (3≤k)&&decide (k≤14))=false:=by simp; omega
   have e6:decide (k=16)=false:=by simp; omega
   have e7:(decide (2≤k)&&decide (k≤16))=false:=by simp; omega
   have e8:(k==16)=false:=by simp; omega
   simp [e1,e2,e3,e4,e5,e6,e7,e8]

set_option maxHeartbeats 400000 in
theorem con_f124 (o:OpD) (v:Int):PX.Con Try.prog 124 [(.agg (encO o)),(.J v)] [] 1 100000 (.sc (.bool (usesD o v))) []:=by
 refine PX.con_intro [(.agg (encO o)),(.J v)] 41 Try.func124 rfl rfl (by kernel_rfl) (by kernel_rfl) ?_
 intro E a hE hS
 generalize E.w0=w at hS ⊢
 have mix:=mixed
 refine PX.G [(.e 2 (.ptr 1 0))] [(1,.box 74 (encO o))] 2 [] [] [.au,.au] [1,2] [1] hS hE trivial fun a w hS=>?_
 refine wp_seq_k fun K1 hK1=>?_
 refine wp_block ?_
 refine wp_seq_k fun K2 hK2=>?_
 refine PX.G [(.e 5 (.sc (.bool (o.kind==2))))] [] 2 [] [] [.au,.au,.au,.au] [1,2,5] [1] hS hE trivial fun a w hS=>?_
 refine PX.cond_s (o.kind==2) hS (by kernel_rfl) (fun h3=>?_) (fun h3=>?_)
 ·skip
  refine wp_skip ?_
  refine hK2 _ _ ?_
  refine PX.cond_s (o.kind==2) hS (by kernel_rfl) (fun h4=>?_) (fun h4=>nomatch (h3.symm.trans h4))
  refine PX.G [(.e 4 (.sc (.bool (o.a==v))))] [] 2 [] [] [.au,.au,.au,.au,.au] [4] [] hS hE trivial fun a w hS=>?_
  refine wp_ret ?_
  try simp only [Exit.then,Exit.inBlock,Nat.reduceEqDiff,↓reduceIte]
  rw [show (.sc (.bool (usesD o v)))=((.sc (.bool (o.a==v))):PX.PV) from by rw [show usesD o v=(o.a==v) from by rw [usesD_if]; simp only [h3,Bool.true_or,Bool.false_or,Bool.or_true,Bool.or_false,cond_true,cond_false]]]
  exact PX.ret_s hS hE (by kernel_rfl) (by kernel_rfl) (by kernel_rfl) (.inl rfl)
 ·skip
  refine PX.G [(.e 5 (.sc (.bool (o.kind==15))))] [] 2 [] [] [.au,.au,.au,.au] [1,2,5] [1] hS hE trivial fun a w hS=>?_
  refine PX.cond_s (o.kind==15) hS (by kernel_rfl) (fun h5=>?_) (fun h5=>?_)
  ·skip
   refine wp_skip ?_
   refine hK2 _ _ ?_
   refine PX.cond_s (o.kind==15) hS (by kernel_rfl) (fun h6=>?_) (fun h6=>nomatch (h5.symm.trans h6))
   refine PX.G [(.e 4 (.sc (.bool (o.a==v))))] [] 2 [] [] [.au,.au,.au,.au,.au] [4] [] hS hE trivial fun a w hS=>?_
   refine wp_ret ?_
   try simp only [Exit.then,Exit.inBlock,Nat.reduceEqDiff,↓reduceIte]
   rw [show (.sc (.bool (usesD o v)))=((.sc (.bool (o.a==v))):PX.PV) from by rw [show usesD o v=(o.a==v) from by rw [usesD_if]; simp only [h3,h5,Bool.true_or,Bool.false_or,Bool.or_true,Bool.or_false,cond_true,cond_false]]]
   exact PX.ret_s hS hE (by kernel_rfl) (by kernel_rfl) (by kernel_rfl) (.inl rfl)
  ·skip
   refine PX.G0 [(.e 5 (.sc (.bool (o.kind==18))))] [] 2 [] [] [.au,.au,.au,.au] [1,2,5] [1] hS hE trivial fun a w hS=>?_
   refine hK2 _ _ ?_
   refine PX.cond_s (o.kind==18) hS (by kernel_rfl) (fun h7=>?_) (fun h7=>?_)
   ·skip
    refine PX.G [(.e 4 (.sc (.bool (o.a==v))))] [] 2 [] [] [.au,.au,.au,.au,.au] [4] [] hS hE trivial fun a w hS=>?_
    refine wp_ret ?_
    try simp only [Exit.then,Exit.inBlock,Nat.reduceEqDiff,↓reduceIte]
    rw [show (.sc (.bool (usesD o v)))=((.sc (.bool (o.a==v))):PX.PV) from by rw [show usesD o v=(o.a==v) from by rw [usesD_if]; simp only [h3,h5,h7,Bool.true_or,Bool.false_or,Bool.or_true,Bool.or_false,cond_true,cond_false]]]
    exact PX.ret_s hS hE (by kernel_rfl) (by kernel_rfl) (by kernel_rfl) (.inl rfl)
   ·skip
    refine wp_seq_k fun K8 hK8=>?_
    refine PX.G [(.e 19 (.sc (.bool (decide (3≤o.kind)&&decide (o.kind≤14)))))] [] 2 [] [(3,decide (3≤o.kind))] [.au,.au,.au,.au,.au,.au,.au,.pk,.au] [1,2,19] [1] hS hE trivial fun a w hS=>?_
    refine PX.cond_s (decide (3≤o.kind)&&decide (o.kind≤14)) hS (by kernel_rfl) (fun h9=>?_) (fun h9=>?_)
    ·skip
     refine wp_skip ?_
     refine hK8 _ _ ?_
     refine PX.cond_s (decide (3≤o.kind)&&decide (o.kind≤14)) hS (by kernel_rfl) (fun h10=>?_) (fun h10=>nomatch (h9.symm.trans h10))
     refine PX.G [(.e 4 (.sc (.bool ((o.a==v)||(o.b==v)))))] [] 2 [] [(4,(o.a==v))] [.au,.au,.au,.au,.au,.au,.au,.au,.au,.pk,.au] [4] [] hS hE trivial fun a w hS=>?_
     refine wp_ret ?_
     try simp only [Exit.then,Exit.inBlock,Nat.reduceEqDiff,↓reduceIte]
     rw [show (.sc (.bool (usesD o v)))=((.sc (.bool ((o.a==v)||(o.b==v)))):PX.PV) from by rw [show usesD o v=((o.a==v)||(o.b==v)) from by rw [usesD_if]; simp only [h3,h5,h7,h9,Bool.true_or,Bool.false_or,Bool.or_true,Bool.or_false,cond_true,cond_false]]]
     exact PX.ret_s hS hE (by kernel_rfl) (by kernel_rfl) (by kernel_rfl) (.inl rfl)
    ·skip
     refine PX.G0 [(.e 19 (.sc (.bool (o.kind==16))))] [] 2 [] [] [.au,.au,.au,.au] [1,2,19] [1] hS hE trivial fun a w hS=>?_
     refine hK8 _ _ ?_
     refine PX.cond_s (o.kind==16) hS (by kernel_rfl) (fun h11=>?_) (fun h11=>?_)
     ·skip
      refine PX.G [(.e 4 (.sc (.bool ((o.a==v)||(o.b==v)))))] [] 2 [] [(4,(o.a==v))] [.au,.au,.au,.au,.au,.au,.au,.au,.au,.pk,.au] [4] [] hS hE trivial fun a w hS=>?_
      refine wp_ret ?_
      try simp only [Exit.then,Exit.inBlock,Nat.reduceEqDiff,↓reduceIte]
      rw [show (.sc (.bool (usesD o v)))=((.sc (.bool ((o.a==v)||(o.b==v)))):PX.PV) from by rw [show usesD o v=((o.a==v)||(o.b==v)) from by rw [usesD_if]; simp only [h3,h5,h7,h9,h11,Bool.true_or,Bool.false_or,Bool.or_true,Bool.or_false,cond_true,cond_false]]]
      exact PX.ret_s hS hE (by kernel_rfl) (by kernel_rfl) (by kernel_rfl) (.inl rfl)
     ·skip
      refine wp_skip ?_
      refine hK1 _ _ ?_
      refine PX.G [(.e 4 (.sc (.bool false)))] [] 2 [] [] [.au] [4] [] hS hE trivial fun a w hS=>?_
      refine wp_ret ?_
      try simp only [Exit.then,Exit.inBlock,Nat.reduceEqDiff,↓reduceIte]
      rw [show (.sc (.bool (usesD o v)))=((.sc (.bool false)):PX.PV) from by rw [show usesD o v=false from by rw [usesD_if]; simp only [h3,h5,h7,h9,h11,Bool.true_or,Bool.false_or,Bool.or_true,Bool.or_false,cond_true,cond_false]]]
      exact PX.ret_s hS hE (by kernel_rfl) (by kernel_rfl) (by kernel_rfl) (.inl rfl)
end Go.Proofs.Ytlkcidmmpeebeaa

/- Proved: the closure of order -/
namespace Go.Proofs.Ytlkcidmmpeebeaa
open Go.RowKit Go.PX
set_option maxRecDepth 100000
theorem con_f124_any {lo top:Nat} (o:OpD) (v:Int):PX.Con Try.prog 124 [.agg (encO o),.sc (.I v)] [] lo top (.sc (.bool (usesD o v))) []:=PX.con_any (con_f124 o v)

set_option maxHeartbeats 400000 in
theorem con_f123 (u o:OpD):PX.Con Try.prog 123 [(.agg (encO u)),(.ptr 1 0)] [(1,.box 74 (encO o))] 2 100000 (.sc (.bool (usesD u o.dst))) [(1,some (.box 74 (encO o)))]:=by
 refine PX.con_intro [(.agg (encO u)),(.ptr 1 0)] 8 Try.func123 rfl rfl (by kernel_rfl) (by kernel_rfl) ?_
 intro E a hE hS
 generalize E.w0=w at hS ⊢
 have mix:=mixed
 refine PX.G [(.e 2 (.ptr 2 0))] [(2,.box 74 (encO u))] 3 [] [] [.au,.au] [1,2] [1,2] hS hE trivial fun a w hS=>?_
 refine PX.G [(.e 3 (.sc (.bool (usesD u o.dst))))] [] 3 [.q (PX.Con Try.prog 124 [(.agg (encO u)),(.J o.dst)] [] 3 3 (.sc (.bool (usesD u o.dst))) [])] [] [.au,.au,.au,.cl [] (.sc (.bool (usesD u o.dst))) [] 3,.au] [1,3] [1] hS hE ⟨con_f124_any u o.dst,trivial⟩ fun a w hS=>?_
 refine wp_ret ?_
 try simp only [Exit.then,Exit.inBlock,Nat.reduceEqDiff,↓reduceIte]
 exact PX.ret_s hS hE (by kernel_rfl) (by kernel_rfl) (by kernel_rfl) (.inl rfl)
end Go.Proofs.Ytlkcidmmpeebeaa

/- Proved: IndexFunc -/
namespace Go.Proofs.Ytlkcidmmpeebeaa
open Go.RowKit Go.PX
set_option maxRecDepth 100000
def idxD (xs:List OpD) (v:Int):Int:=match xs.findIdx? (fun u=>usesD u v) with | some k=>(k:Int) | none=>-1
theorem idxD_at {xs:List OpD} {v:Int} {k:Nat} {y:OpD} (h:Upto xs (fun _ b=>!usesD b v) k) (hy:xs[k]?=some y) (hu:usesD y v=true):idxD xs v=(k:Int):=by
 have hk:k<xs.length:=(List.getElem?_eq_some_iff.1 hy).1
 have e:xs.findIdx? (fun u=>usesD u v)=some k:=by
  rw [List.findIdx?_eq_some_iff_getElem]
  refine ⟨hk,?_,fun j hj=>?_⟩
  ·have:xs[k]=y:=(List.getElem?_eq_some_iff.1 hy).2
   rw [this]; exact hu
  ·have:=h j (xs[j]'(by omega)) hj (List.getElem?_eq_getElem (by omega))
   simpa using this
 unfold idxD; rw [e]
theorem idxD_none {xs:List OpD} {v:Int} {k:Nat} (h:Upto xs (fun _ b=>!usesD b v) k) (hk:xs.length≤k):idxD xs v=-1:=by
 have e:xs.findIdx? (fun u=>usesD u v)=none:=by
  rw [List.findIdx?_eq_none_iff]
  intro x hx
  obtain ⟨j,hj⟩:=List.getElem?_of_mem hx
  have:=h j x (by have:=(List.getElem?_eq_some_iff.1 hj).1; omega) hj
  simpa using this
 unfold idxD; rw [e]
theorem con_f123_any {lo top:Nat} (u o:OpD):PX.Con Try.prog 123 [.agg (encO u),.ptr 1 0] [(1,.box 74 (encO o))] lo top (.sc (.bool (usesD u o.dst))) [(1,some (.box 74 (encO o)))] :=
 PX.con_anyH (con_f123 u o) (by kernel_rfl) (fun id o' h=>by
  simp only [PX.ulook] at h
  cases hb:Nat.beq 1 id with
  | true=>rw [hb] at h; simp only [cond_true,Option.some.injEq] at h; rw [← Nat.eq_of_beq_eq_true hb,← h]; exact ⟨rfl,rfl⟩
  | false=>rw [hb] at h; simp at h) (by kernel_rfl) (by kernel_rfl) (by kernel_rfl)

set_option maxHeartbeats 400000 in
theorem con_f122 (xs:List OpD) (o:OpD) (hl:xs.length≤140737488351232):PX.Con Try.prog 122 [(.own 2 11 xs.length),(.fn 123 [] [(.ptr 1 0)])] [(1,.box 74 (encO o)),(2,.row 74 11 true (xs.map encO))] 3 100000 (.sc (.I (idxD xs o.dst))) [(1,some (.box 74 (encO o))),(2,some (.row 74 11 true (xs.map encO)))]:=by
 refine PX.con_intro [(.own 2 11 xs.length),(.fn 123 [] [(.ptr 1 0)])] 19 Try.func122 rfl rfl (by kernel_rfl) (by kernel_rfl) ?_
 intro E a hE hS
 generalize E.w0=w at hS ⊢
 have mix:=mixed
 refine PX.G [] [] 3 [] [] [.au] [0,1] [1,2] hS hE trivial fun a w hS=>?_
 refine wp_seq_k fun K1 hK1=>?_
 refine PX.G [(.e 7 (.sc (.I (xs.length:Int)))),(.e 8 (.J 0))] [] 3 [] [] [.au,.au,.au] [0,1,7,8] [1,2] hS hE trivial fun a w hS=>?_
 refine wp_block ?_
 refine wp_loop_ghost (fun m2 a' w'=>∃ k:Nat,m2=xs.length-k∧k≤xs.length∧Upto xs (fun _ b=>!usesD b o.dst) (k)∧PX.Sat E 19 [(.e 0 (.own 2 11 xs.length)),(.e 1 (.fn 123 [] [(.ptr 1 0)])),(.e 7 (.sc (.I (xs.length:Int)))),(.e 8 (.sc (.I (k:Int))))] [(1,.box 74 (encO o)),(2,.row 74 11 true (xs.map encO))] 3 a' w') (xs.length-0) ⟨0,rfl,Nat.zero_le _,Upto.zero,(PX.canon [] _ _ 3 hS hE (by kernel_rfl) (by kernel_rfl) (by kernel_rfl))⟩ ?_
 clear hS; rintro m2 a w ⟨k,hm2,hlek,hIk,hS⟩
 refine PX.G [(.e 9 (.sc (.bool (decide ((k:Int)<(xs.length:Int))))))] [] 3 [] [] [.au] [0,1,7,8,9] [1,2] hS hE trivial fun a w hS=>?_
 refine wp_seq_k fun K3 hK3=>?_
 refine PX.cond_s (decide ((k:Int)<(xs.length:Int))) hS (by kernel_rfl) (fun h4=>?_) (fun h4=>?_)
 ·skip
  refine wp_skip ?_
  refine hK3 _ _ ?_
  refine wp_seq_k fun K5 hK5=>?_
  refine wp_block ?_
  refine PX.G [(.e 5 (.sc (.I (k:Int))))] [] 3 [] [] [.au,.au] [0,1,5,7,8] [1,2] hS hE trivial fun a w hS=>?_
  have hlty:k<xs.length:=by simpa using h4
  obtain ⟨y,hy⟩:=get_of_lt hlty
  refine PX.G [(.e 16 (.sc (.bool (usesD y o.dst))))] [] 3 [.q ((k:Int)=(k:Int)),.q (k<xs.length),.q ((xs.map encO)[k]?=some (encO y)),.q (PX.Con Try.prog 123 [(.agg (encO y)),(.ptr 1 0)] [(1,.box 74 (encO o))] 3 3 (.sc (.bool (usesD y o.dst))) [(1,some (.box 74 (encO o)))])] [] [.au,.au,.au,.ix k [],.lr (encO y),.cl [1] (.sc (.bool (usesD y o.dst))) [(1,some (.box 74 (encO o)))] 3] [0,1,5,7,8,16] [1,2] hS hE ⟨rfl,hlty,PX.map_get hy,con_f123_any y o,trivial⟩ fun a w hS=>?_
  refine PX.cond_s (usesD y o.dst) hS (by kernel_rfl) (fun h6=>?_) (fun h6=>?_)
  ·skip
   refine PX.G [(.e 4 (.sc (.I (k:Int))))] [] 3 [] [] [.au,.au] [0,1,4,7,8] [1,2] hS hE trivial fun a w hS=>?_
   refine wp_ret ?_
   try simp only [Exit.then,Exit.inBlock,Nat.reduceEqDiff,↓reduceIte]
   rw [show (.sc (.I (idxD xs o.dst)))=((.sc (.I (k:Int))):PX.PV) from by rw [idxD_at hIk hy h6]]
   exact PX.ret_s hS hE (by kernel_rfl) (by kernel_rfl) (by kernel_rfl) (.inl rfl)
  ·skip
   refine wp_skip ?_
   refine hK5 _ _ ?_
   refine PX.G0 [(.e 8 (.sc (.I ((k+1:Nat):Int))))] [] 3 [.q ((.sc (.I (IntKind.i64.wrap ((k:Int)+1))):PX.PV)=(.sc (.I ((k+1:Nat):Int))))] [] [.nm (.sc (.I ((k+1:Nat):Int))),.au] [0,1,7,8] [1,2] hS hE ⟨PX.nm_int (by rw [IntWalk.i64_in _ (by omega)]; omega),trivial⟩ fun a w hS=>?_
   exact ⟨xs.length-(k+1),by omega,k+1,rfl,by omega,hIk.step hy (by rw [h6]; rfl),(PX.canon [] _ _ 3 hS hE (by kernel_rfl) (by kernel_rfl) (by kernel_rfl))⟩
 ·skip
  refine wp_exit ?_
  refine hK1 _ _ ?_
  refine PX.G [(.e 4 (.sc (.I (-1))))] [] 3 [] [] [.au] [0,1,4] [1,2] hS hE trivial fun a w hS=>?_
  refine wp_ret ?_
  try simp only [Exit.then,Exit.inBlock,Nat.reduceEqDiff,↓reduceIte]
  rw [show (.sc (.I (idxD xs o.dst)))=((.sc (.I (-1))):PX.PV) from by rw [idxD_none hIk (le_of_dec h4)]]
  exact PX.ret_s hS hE (by kernel_rfl) (by kernel_rfl) (by kernel_rfl) (.inl rfl)
end Go.Proofs.Ytlkcidmmpeebeaa
