/- Proved: rename of unroll -/
import Derived.Test.YtlkcidmmpeebeaaPUnG
import Derived.Test.YtlkcidmmpeebeaaPcD
set_option linter.unusedVariables false
set_option linter.unusedSimpArgs false
namespace Go.Proofs.Ytlkcidmmpeebeaa
open Go.RowKit Go.PX
set_option maxRecDepth 100000
def iv (D:List (Int × Int)):List (Int × Value):=D.map fun p=>(p.1,.I p.2)
def updI (D:List (Int × Int)) (n v:Int):List (Int × Int):=match D with
 | []=>[(n,v)]
 | p::D=>bif n==p.1 then (p.1,v)::D else p::updI D n v
def valD (D:List (Int × Int)) (n:Int):Int:=((D.find? (fun p=>n==p.1)).map (·.2)).getD 0
theorem look_iv (D:List (Int × Int)) (n:Int):PX.PV.sc ((PX.findV (iv D) n).getD (.I 0))=.sc (.I (valD D n)):=by
 congr 1
 unfold PX.findV valD iv
 rw [List.find?_map]
 simp only [Function.comp_def]
 cases D.find? (fun p=>n==p.1) <;> rfl
theorem upd_iv:∀ (D:List (Int × Int)) (n v:Int),PX.updV (iv D) n (.I v)=iv (updI D n v)
 | [],n,v=>rfl
 | p::D,n,v=>by
  have ih:=upd_iv D n v
  unfold iv at ih ⊢
  simp only [List.map_cons,PX.updV,updI]
  cases h:n==p.1 with
  | true=>simp
  | false=>simp [ih]
def renP (D:List (Int × Int)) (o:OpD):OpD :=
 let d:=if R.defines o.kind=true then valD D o.dst else o.dst
 if (o.kind==1)=true then { o with dst:=d } else if (o.kind==17)=true then { o with dst:=d } else if (o.kind==19)=true then { o with dst:=d } else if (o.kind==20)=true then { o with dst:=d }
 else if (o.kind==2)=true then { o with dst:=d,a:=valD D o.a } else if (o.kind==15)=true then { o with dst:=d,a:=valD D o.a } else if (o.kind==18)=true then { o with dst:=d,a:=valD D o.a }
 else if (o.kind==21)=true then (if (o.sk==2)=true then { o with dst:=d,sv:=valD D o.sv } else { o with dst:=d })
 else { o with dst:=d,a:=valD D o.a,b:=valD D o.b }

set_option maxHeartbeats 400000 in
theorem con_f135 (D:List (Int × Int)) (v:Int):PX.Con Try.prog 135 [(.J v),(.ptr 1 0)] [(1,.box 139 [(.map 2)]),(2,.mp (iv D))] 3 100000 (.sc (.I (valD D v))) [(1,some (.box 139 [.map 2])),(2,some (.mp (iv D)))]:=by
 refine PX.con_intro [(.J v),(.ptr 1 0)] 7 Try.func135 rfl rfl (by kernel_rfl) (by kernel_rfl) ?_
 intro E a hE hS
 generalize E.w0=w at hS ⊢
 have mix:=mixed
 refine PX.G [] [] 3 [] [] [.au] [0,1] [1,2] hS hE trivial fun a w hS=>?_
 refine PX.G [(.e 3 (.sc (.I (valD D v))))] [] 3 [.q ((.sc ((PX.findV (iv D) v).getD (.I 0)):PX.PV)=(.sc (.I (valD D v))))] [] [.au,.au,.nm (.sc (.I (valD D v))),.au] [1,3] [1,2] hS hE ⟨look_iv D v,trivial⟩ fun a w hS=>?_
 refine wp_ret ?_
 try simp only [Exit.then,Exit.inBlock,Nat.reduceEqDiff,↓reduceIte]
 exact PX.ret_s hS hE (by kernel_rfl) (by kernel_rfl) (by kernel_rfl) (.inl rfl)

set_option maxHeartbeats 400000 in
theorem con_f136 (D:List (Int × Int)) (o:OpD):PX.Con Try.prog 136 [(.agg (encO o)),(.fn 135 [] [(.ptr 1 0)])] [(1,.box 139 [(.map 2)]),(2,.mp (iv D))] 3 100000 (.agg (encO (renP D o))) [(1,some (.box 139 [.map 2])),(2,some (.mp (iv D)))]:=by
 refine PX.con_intro [(.agg (encO o)),(.fn 135 [] [(.ptr 1 0)])] 53 Try.func136 rfl rfl (by kernel_rfl) (by kernel_rfl) ?_
 intro E a hE hS
 generalize E.w0=w at hS ⊢
 have mix:=mixed
 refine PX.G [(.e 2 (.ptr 3 0)),(.e 4 (.ptr 4 0))] [(3,.box 74 (encO o)),(4,.box 74 [(.J 0),(.J 0),(.J 0),(.J 0),(.J 0),(.J 0),(.J 0),(.J 0),(.J 0),(.J 0),(.J 0)])] 5 [] [] [.au,.au] [1,2,4] [1,2,3,4] hS hE trivial fun a w hS=>?_
 refine PX.seq_cut (E:=E) (N:=53) (T:=[(.e 1 (.fn 135 [] [(.ptr 1 0)])),(.e 2 (.ptr 3 0)),(.e 4 (.ptr 4 0))]) (H:=[(1,.box 139 [(.map 2)]),(2,.mp (iv D)),(3,.box 74 [(.J o.kind),(.sc (.I (if R.defines o.kind=true then valD D o.dst else o.dst))),(.J o.a),(.J o.b),(.J o.n),(.J o.ctx),(.J o.var),(.J o.piece),(.J o.sk),(.J o.sv),(.J o.sa)]),(4,.box 74 [(.J 0),(.J 0),(.J 0),(.J 0),(.J 0),(.J 0),(.J 0),(.J 0),(.J 0),(.J 0),(.J 0)])]) (nx:=5) ?_ ?_
 ·skip
  refine PX.G [(.e 7 (.sc (.bool (R.defines o.kind))))] [] 5 [.q (PX.Con Try.prog 161 [(.J o.kind)] [] 5 5 (.sc (.bool (R.defines o.kind))) [])] [] [.au,.au,.cl [] (.sc (.bool (R.defines o.kind))) [] 5] [1,2,4,7] [1,2,3,4] hS hE ⟨PX.con_any (con_f161 o.kind),trivial⟩ fun a w hS=>?_
  refine PX.cond_s (R.defines o.kind) hS (by kernel_rfl) (fun h1=>?_) (fun h1=>?_)
  ·skip
   refine PX.G0 [] [(3,.box 74 [(.J o.kind),(.sc (.I (valD D o.dst))),(.J o.a),(.J o.b),(.J o.n),(.J o.ctx),(.J o.var),(.J o.piece),(.J o.sk),(.J o.sv),(.J o.sa)])] 5 [.q (PX.Con Try.prog 135 [(.J o.dst),(.ptr 1 0)] [(1,.box 139 [(.map 2)]),(2,.mp (iv D))] 5 5 (.sc (.I (valD D o.dst))) [(1,some (.box 139 [.map 2])),(2,some (.mp (iv D)))])] [] [.au,.au,.au,.cl [1,2] (.sc (.I (valD D o.dst))) [(1,some (.box 139 [.map 2])),(2,some (.mp (iv D)))] 5,.au,.au] [1,2,4] [1,2,3,4] hS hE ⟨PX.con_as [(1,1),(2,2)] [(1,1),(2,2)] (con_f135 D o.dst) (by kernel_rfl) (by kernel_rfl) (by kernel_rfl) (by kernel_rfl) (by kernel_rfl) (by kernel_rfl),trivial⟩ fun a w hS=>?_
   replace hS:=PX.recell (id:=3) (j:=1) (.sc (.I (if R.defines o.kind=true then valD D o.dst else o.dst))) hS rfl rfl rfl (fun _ _ _ _ h=>(show PX.PV.sc (.I (valD D o.dst))=.sc (.I (if R.defines o.kind=true then valD D o.dst else o.dst)) from by rw [h1]; rfl) ▸ h)
   exact (PX.canon [] _ _ 5 hS hE (by kernel_rfl) (by kernel_rfl) (by kernel_rfl))
  ·skip
   refine wp_skip ?_
   replace hS:=PX.recell (id:=3) (j:=1) (.sc (.I (if R.defines o.kind=true then valD D o.dst else o.dst))) hS rfl rfl rfl (fun _ _ _ _ h=>(show PX.PV.sc (.I o.dst)=.sc (.I (if R.defines o.kind=true then valD D o.dst else o.dst)) from by rw [h1]; rfl) ▸ h)
   replace hS:=PX.sl [1,2,4] hS
   exact (PX.canon [] _ _ 5 hS hE (by kernel_rfl) (by kernel_rfl) (by kernel_rfl))
 clear hS; intro a w hS
 refine wp_seq_k fun K2 hK2=>?_
 refine PX.G [(.e 14 (.J o.kind))] [] 5 [] [] [.au,.au] [1,2,4,14] [1,2,3,4] hS hE trivial fun a w hS=>?_
 refine wp_block ?_
 refine wp_seq_k fun K3 hK3=>?_
 refine PX.G [(.e 25 (.sc (.bool (o.kind==1))))] [] 5 [] [] [.au,.au] [1,2,4,14,25] [1,2,3,4] hS hE trivial fun a w hS=>?_
 refine PX.cond_s (o.kind==1) hS (by kernel_rfl) (fun h4=>?_) (fun h4=>?_)
 ·skip
  refine wp_skip ?_
  refine hK3 _ _ ?_
  refine PX.cond_s (o.kind==1) hS (by kernel_rfl) (fun h5=>?_) (fun h5=>nomatch (h4.symm.trans h5))
  refine wp_skip ?_
  refine hK2 _ _ ?_
  refine PX.G [] [(4,.box 74 [(.J o.kind),(.sc (.I (if R.defines o.kind=true then valD D o.dst else o.dst))),(.J o.a),(.J o.b),(.J o.n),(.J o.ctx),(.J o.var),(.J o.piece),(.J o.sk),(.J o.sv),(.J o.sa)])] 5 [] [] [.au,.au] [1,4] [1,2,4] hS hE trivial fun a w hS=>?_
  refine wp_ret ?_
  try simp only [Exit.then,Exit.inBlock,Nat.reduceEqDiff,↓reduceIte]
  rw [show (.agg (encO (renP D o)))=((.agg [(.J o.kind),(.sc (.I (if R.defines o.kind=true then valD D o.dst else o.dst))),(.J o.a),(.J o.b),(.J o.n),(.J o.ctx),(.J o.var),(.J o.piece),(.J o.sk),(.J o.sv),(.J o.sa)]):PX.PV) from by unfold renP; simp only [h4,if_true,Bool.false_eq_true,if_false] <;> rfl]
  exact PX.ret_s hS hE (by kernel_rfl) (by kernel_rfl) (by kernel_rfl) (.inl rfl)
 ·skip
  refine PX.G [(.e 25 (.sc (.bool (o.kind==17))))] [] 5 [] [] [.au,.au] [1,2,4,14,25] [1,2,3,4] hS hE trivial fun a w hS=>?_
  refine PX.cond_s (o.kind==17) hS (by kernel_rfl) (fun h6=>?_) (fun h6=>?_)
  ·skip
   refine wp_skip ?_
   refine hK3 _ _ ?_
   refine PX.cond_s (o.kind==17) hS (by kernel_rfl) (fun h7=>?_) (fun h7=>nomatch (h6.symm.trans h7))
   refine wp_skip ?_
   refine hK2 _ _ ?_
   refine PX.G [] [(4,.box 74 [(.J o.kind),(.sc (.I (if R.defines o.kind=true then valD D o.dst else o.dst))),(.J o.a),(.J o.b),(.J o.n),(.J o.ctx),(.J o.var),(.J o.piece),(.J o.sk),(.J o.sv),(.J o.sa)])] 5 [] [] [.au,.au] [1,4] [1,2,4] hS hE trivial fun a w hS=>?_
   refine wp_ret ?_
   try simp only [Exit.then,Exit.inBlock,Nat.reduceEqDiff,↓reduceIte]
   rw [show (.agg (encO (renP D o)))=((.agg [(.J o.kind),(.sc (.I (if R.defines o.kind=true then valD D o.dst else o.dst))),(.J o.a),(.J o.b),(.J o.n),(.J o.ctx),(.J o.var),(.J o.piece),(.J o.sk),(.J o.sv),(.J o.sa)]):PX.PV) from by unfold renP; simp only [h4,h6,if_true,Bool.false_eq_true,if_false] <;> rfl]
   exact PX.ret_s hS hE (by kernel_rfl) (by kernel_rfl) (by kernel_rfl) (.inl rfl)
  ·skip
   refine PX.G [(.e 25 (.sc (.bool (o.kind==19))))] [] 5 [] [] [.au,.au] [1,2,4,14,25] [1,2,3,4] hS hE trivial fun a w hS=>?_
   refine PX.cond_s (o.kind==19) hS (by kernel_rfl) (fun h8=>?_) (fun h8=>?_)
   ·skip
    refine wp_skip ?_
    refine hK3 _ _ ?_
    refine PX.cond_s (o.kind==19) hS (by kernel_rfl) (fun h9=>?_) (fun h9=>nomatch (h8.symm.trans h9))
    refine wp_skip ?_
    refine hK2 _ _ ?_
    refine PX.G [] [(4,.box 74 [(.J o.kind),(.sc (.I (if R.defines o.kind=true then valD D o.dst else o.dst))),(.J o.a),(.J o.b),(.J o.n),(.J o.ctx),(.J o.var),(.J o.piece),(.J o.sk),(.J o.sv),(.J o.sa)])] 5 [] [] [.au,.au] [1,4] [1,2,4] hS hE trivial fun a w hS=>?_
    refine wp_ret ?_
    try simp only [Exit.then,Exit.inBlock,Nat.reduceEqDiff,↓reduceIte]
    rw [show (.agg (encO (renP D o)))=((.agg [(.J o.kind),(.sc (.I (if R.defines o.kind=true then valD D o.dst else o.dst))),(.J o.a),(.J o.b),(.J o.n),(.J o.ctx),(.J o.var),(.J o.piece),(.J o.sk),(.J o.sv),(.J o.sa)]):PX.PV) from by unfold renP; simp only [h4,h6,h8,if_true,Bool.false_eq_true,if_false] <;> rfl]
    exact PX.ret_s hS hE (by kernel_rfl) (by kernel_rfl) (by kernel_rfl) (.inl rfl)
   ·skip
    refine PX.G0 [(.e 25 (.sc (.bool (o.kind==20))))] [] 5 [] [] [.au,.au] [1,2,4,14,25] [1,2,3,4] hS hE trivial fun a w hS=>?_
    refine hK3 _ _ ?_
    refine PX.cond_s (o.kind==20) hS (by kernel_rfl) (fun h10=>?_) (fun h10=>?_)
    ·skip
     refine wp_skip ?_
     refine hK2 _ _ ?_
     refine PX.G [] [(4,.box 74 [(.J o.kind),(.sc (.I (if R.defines o.kind=true then valD D o.dst else o.dst))),(.J o.a),(.J o.b),(.J o.n),(.J o.ctx),(.J o.var),(.J o.piece),(.J o.sk),(.J o.sv),(.J o.sa)])] 5 [] [] [.au,.au] [1,4] [1,2,4] hS hE trivial fun a w hS=>?_
     refine wp_ret ?_
     try simp only [Exit.then,Exit.inBlock,Nat.reduceEqDiff,↓reduceIte]
     rw [show (.agg (encO (renP D o)))=((.agg [(.J o.kind),(.sc (.I (if R.defines o.kind=true then valD D o.dst else o.dst))),(.J o.a),(.J o.b),(.J o.n),(.J o.ctx),(.J o.var),(.J o.piece),(.J o.sk),(.J o.sv),(.J o.sa)]):PX.PV) from by unfold renP; simp only [h4,h6,h8,h10,if_true,Bool.false_eq_true,if_false] <;> rfl]
     exact PX.ret_s hS hE (by kernel_rfl) (by kernel_rfl) (by kernel_rfl) (.inl rfl)
    ·skip
     refine wp_seq_k fun K11 hK11=>?_
     refine PX.G [(.e 30 (.sc (.bool (o.kind==2))))] [] 5 [] [] [.au,.au] [1,2,4,14,30] [1,2,3,4] hS hE trivial fun a w hS=>?_
     refine PX.cond_s (o.kind==2) hS (by kernel_rfl) (fun h12=>?_) (fun h12=>?_)
     ·skip
      refine wp_skip ?_
      refine hK11 _ _ ?_
      refine PX.cond_s (o.kind==2) hS (by kernel_rfl) (fun h13=>?_) (fun h13=>nomatch (h12.symm.trans h13))
      refine PX.G0 [] [(3,.box 74 [(.J o.kind),(.sc (.I (if R.defines o.kind=true then valD D o.dst else o.dst))),(.sc (.I (valD D o.a))),(.J o.b),(.J o.n),(.J o.ctx),(.J o.var),(.J o.piece),(.J o.sk),(.J o.sv),(.J o.sa)])] 5 [.q (PX.Con Try.prog 135 [(.J o.a),(.ptr 1 0)] [(1,.box 139 [(.map 2)]),(2,.mp (iv D))] 5 5 (.sc (.I (valD D o.a))) [(1,some (.box 139 [.map 2])),(2,some (.mp (iv D)))])] [] [.au,.au,.au,.cl [1,2] (.sc (.I (valD D o.a))) [(1,some (.box 139 [.map 2])),(2,some (.mp (iv D)))] 5,.au,.au] [1,2,4] [1,2,3,4] hS hE ⟨PX.con_as [(1,1),(2,2)] [(1,1),(2,2)] (con_f135 D o.a) (by kernel_rfl) (by kernel_rfl) (by kernel_rfl) (by kernel_rfl) (by kernel_rfl) (by kernel_rfl),trivial⟩ fun a w hS=>?_
      refine hK2 _ _ ?_
      refine PX.G [] [(4,.box 74 [(.J o.kind),(.sc (.I (if R.defines o.kind=true then valD D o.dst else o.dst))),(.sc (.I (valD D o.a))),(.J o.b),(.J o.n),(.J o.ctx),(.J o.var),(.J o.piece),(.J o.sk),(.J o.sv),(.J o.sa)])] 5 [] [] [.au,.au] [1,4] [1,2,4] hS hE trivial fun a w hS=>?_
      refine wp_ret ?_
      try simp only [Exit.then,Exit.inBlock,Nat.reduceEqDiff,↓reduceIte]
      rw [show (.agg (encO (renP D o)))=((.agg [(.J o.kind),(.sc (.I (if R.defines o.kind=true then valD D o.dst else o.dst))),(.sc (.I (valD D o.a))),(.J o.b),(.J o.n),(.J o.ctx),(.J o.var),(.J o.piece),(.J o.sk),(.J o.sv),(.J o.sa)]):PX.PV) from by unfold renP; simp only [h4,h6,h8,h10,h12,if_true,Bool.false_eq_true,if_false] <;> rfl]
      exact PX.ret_s hS hE (by kernel_rfl) (by kernel_rfl) (by kernel_rfl) (.inl rfl)
     ·skip
      refine PX.G [(.e 30 (.sc (.bool (o.kind==15))))] [] 5 [] [] [.au,.au] [1,2,4,14,30] [1,2,3,4] hS hE trivial fun a w hS=>?_
      refine PX.cond_s (o.kind==15) hS (by kernel_rfl) (fun h14=>?_) (fun h14=>?_)
      ·skip
       refine wp_skip ?_
       refine hK11 _ _ ?_
       refine PX.cond_s (o.kind==15) hS (by kernel_rfl) (fun h15=>?_) (fun h15=>nomatch (h14.symm.trans h15))
       refine PX.G0 [] [(3,.box 74 [(.J o.kind),(.sc (.I (if R.defines o.kind=true then valD D o.dst else o.dst))),(.sc (.I (valD D o.a))),(.J o.b),(.J o.n),(.J o.ctx),(.J o.var),(.J o.piece),(.J o.sk),(.J o.sv),(.J o.sa)])] 5 [.q (PX.Con Try.prog 135 [(.J o.a),(.ptr 1 0)] [(1,.box 139 [(.map 2)]),(2,.mp (iv D))] 5 5 (.sc (.I (valD D o.a))) [(1,some (.box 139 [.map 2])),(2,some (.mp (iv D)))])] [] [.au,.au,.au,.cl [1,2] (.sc (.I (valD D o.a))) [(1,some (.box 139 [.map 2])),(2,some (.mp (iv D)))] 5,.au,.au] [1,2,4] [1,2,3,4] hS hE ⟨PX.con_as [(1,1),(2,2)] [(1,1),(2,2)] (con_f135 D o.a) (by kernel_rfl) (by kernel_rfl) (by kernel_rfl) (by kernel_rfl) (by kernel_rfl) (by kernel_rfl),trivial⟩ fun a w hS=>?_
       refine hK2 _ _ ?_
       refine PX.G [] [(4,.box 74 [(.J o.kind),(.sc (.I (if R.defines o.kind=true then valD D o.dst else o.dst))),(.sc (.I (valD D o.a))),(.J o.b),(.J o.n),(.J o.ctx),(.J o.var),(.J o.piece),(.J o.sk),(.J o.sv),(.J o.sa)])] 5 [] [] [.au,.au] [1,4] [1,2,4] hS hE trivial fun a w hS=>?_
       refine wp_ret ?_
       try simp only [Exit.then,Exit.inBlock,Nat.reduceEqDiff,↓reduceIte]
       rw [show (.agg (encO (renP D o)))=((.agg [(.J o.kind),(.sc (.I (if R.defines o.kind=true then valD D o.dst else o.dst))),(.sc (.I (valD D o.a))),(.J o.b),(.J o.n),(.J o.ctx),(.J o.var),(.J o.piece),(.J o.sk),(.J o.sv),(.J o.sa)]):PX.PV) from by unfold renP; simp only [h4,h6,h8,h10,h12,h14,if_true,Bool.false_eq_true,if_false] <;> rfl]
       exact PX.ret_s hS hE (by kernel_rfl) (by kernel_rfl) (by kernel_rfl) (.inl rfl)
      ·skip
       refine PX.G0 [(.e 30 (.sc (.bool (o.kind==18))))] [] 5 [] [] [.au,.au] [1,2,4,14,30] [1,2,3,4] hS hE trivial fun a w hS=>?_
       refine hK11 _ _ ?_
       refine PX.cond_s (o.kind==18) hS (by kernel_rfl) (fun h16=>?_) (fun h16=>?_)
       ·skip
        refine PX.G0 [] [(3,.box 74 [(.J o.kind),(.sc (.I (if R.defines o.kind=true then valD D o.dst else o.dst))),(.sc (.I (valD D o.a))),(.J o.b),(.J o.n),(.J o.ctx),(.J o.var),(.J o.piece),(.J o.sk),(.J o.sv),(.J o.sa)])] 5 [.q (PX.Con Try.prog 135 [(.J o.a),(.ptr 1 0)] [(1,.box 139 [(.map 2)]),(2,.mp (iv D))] 5 5 (.sc (.I (valD D o.a))) [(1,some (.box 139 [.map 2])),(2,some (.mp (iv D)))])] [] [.au,.au,.au,.cl [1,2] (.sc (.I (valD D o.a))) [(1,some (.box 139 [.map 2])),(2,some (.mp (iv D)))] 5,.au,.au] [1,2,4] [1,2,3,4] hS hE ⟨PX.con_as [(1,1),(2,2)] [(1,1),(2,2)] (con_f135 D o.a) (by kernel_rfl) (by kernel_rfl) (by kernel_rfl) (by kernel_rfl) (by kernel_rfl) (by kernel_rfl),trivial⟩ fun a w hS=>?_
        refine hK2 _ _ ?_
        refine PX.G [] [(4,.box 74 [(.J o.kind),(.sc (.I (if R.defines o.kind=true then valD D o.dst else o.dst))),(.sc (.I (valD D o.a))),(.J o.b),(.J o.n),(.J o.ctx),(.J o.var),(.J o.piece),(.J o.sk),(.J o.sv),(.J o.sa)])] 5 [] [] [.au,.au] [1,4] [1,2,4] hS hE trivial fun a w hS=>?_
        refine wp_ret ?_
        try simp only [Exit.then,Exit.inBlock,Nat.reduceEqDiff,↓reduceIte]
        rw [show (.agg (encO (renP D o)))=((.agg [(.J o.kind),(.sc (.I (if R.defines o.kind=true then valD D o.dst else o.dst))),(.sc (.I (valD D o.a))),(.J o.b),(.J o.n),(.J o.ctx),(.J o.var),(.J o.piece),(.J o.sk),(.J o.sv),(.J o.sa)]):PX.PV) from by unfold renP; simp only [h4,h6,h8,h10,h12,h14,h16,if_true,Bool.false_eq_true,if_false] <;> rfl]
        exact PX.ret_s hS hE (by kernel_rfl) (by kernel_rfl) (by kernel_rfl) (.inl rfl)
       ·skip
        refine PX.G [(.e 39 (.sc (.bool (o.kind==21))))] [] 5 [] [] [.au,.au] [1,2,4,39] [1,2,3,4] hS hE trivial fun a w hS=>?_
        refine PX.cond_s (o.kind==21) hS (by kernel_rfl) (fun h17=>?_) (fun h17=>?_)
        ·skip
         refine PX.G [(.e 44 (.sc (.bool (o.sk==2))))] [] 5 [] [] [.au,.au,.au,.au] [1,2,4,44] [1,2,3,4] hS hE trivial fun a w hS=>?_
         refine PX.cond_s (o.sk==2) hS (by kernel_rfl) (fun h18=>?_) (fun h18=>?_)
         ·skip
          refine PX.G0 [] [(3,.box 74 [(.J o.kind),(.sc (.I (if R.defines o.kind=true then valD D o.dst else o.dst))),(.J o.a),(.J o.b),(.J o.n),(.J o.ctx),(.J o.var),(.J o.piece),(.J o.sk),(.sc (.I (valD D o.sv))),(.J o.sa)])] 5 [.q (PX.Con Try.prog 135 [(.J o.sv),(.ptr 1 0)] [(1,.box 139 [(.map 2)]),(2,.mp (iv D))] 5 5 (.sc (.I (valD D o.sv))) [(1,some (.box 139 [.map 2])),(2,some (.mp (iv D)))])] [] [.au,.au,.au,.au,.cl [1,2] (.sc (.I (valD D o.sv))) [(1,some (.box 139 [.map 2])),(2,some (.mp (iv D)))] 5,.au,.au,.au] [1,2,4] [1,2,3,4] hS hE ⟨PX.con_as [(1,1),(2,2)] [(1,1),(2,2)] (con_f135 D o.sv) (by kernel_rfl) (by kernel_rfl) (by kernel_rfl) (by kernel_rfl) (by kernel_rfl) (by kernel_rfl),trivial⟩ fun a w hS=>?_
          refine hK2 _ _ ?_
          refine PX.G [] [(4,.box 74 [(.J o.kind),(.sc (.I (if R.defines o.kind=true then valD D o.dst else o.dst))),(.J o.a),(.J o.b),(.J o.n),(.J o.ctx),(.J o.var),(.J o.piece),(.J o.sk),(.sc (.I (valD D o.sv))),(.J o.sa)])] 5 [] [] [.au,.au] [1,4] [1,2,4] hS hE trivial fun a w hS=>?_
          refine wp_ret ?_
          try simp only [Exit.then,Exit.inBlock,Nat.reduceEqDiff,↓reduceIte]
          rw [show (.agg (encO (renP D o)))=((.agg [(.J o.kind),(.sc (.I (if R.defines o.kind=true then valD D o.dst else o.dst))),(.J o.a),(.J o.b),(.J o.n),(.J o.ctx),(.J o.var),(.J o.piece),(.J o.sk),(.sc (.I (valD D o.sv))),(.J o.sa)]):PX.PV) from by unfold renP; simp only [h4,h6,h8,h10,h12,h14,h16,h17,h18,if_true,Bool.false_eq_true,if_false] <;> rfl]
          exact PX.ret_s hS hE (by kernel_rfl) (by kernel_rfl) (by kernel_rfl) (.inl rfl)
         ·skip
          refine wp_skip ?_
          refine hK2 _ _ ?_
          refine PX.G [] [(4,.box 74 [(.J o.kind),(.sc (.I (if R.defines o.kind=true then valD D o.dst else o.dst))),(.J o.a),(.J o.b),(.J o.n),(.J o.ctx),(.J o.var),(.J o.piece),(.J o.sk),(.J o.sv),(.J o.sa)])] 5 [] [] [.au,.au] [1,4] [1,2,4] hS hE trivial fun a w hS=>?_
          refine wp_ret ?_
          try simp only [Exit.then,Exit.inBlock,Nat.reduceEqDiff,↓reduceIte]
          rw [show (.agg (encO (renP D o)))=((.agg [(.J o.kind),(.sc (.I (if R.defines o.kind=true then valD D o.dst else o.dst))),(.J o.a),(.J o.b),(.J o.n),(.J o.ctx),(.J o.var),(.J o.piece),(.J o.sk),(.J o.sv),(.J o.sa)]):PX.PV) from by unfold renP; simp only [h4,h6,h8,h10,h12,h14,h16,h17,h18,if_true,Bool.false_eq_true,if_false] <;> rfl]
          exact PX.ret_s hS hE (by kernel_rfl) (by kernel_rfl) (by kernel_rfl) (.inl rfl)
        ·skip
         refine PX.D0 [] [(3,.box 74 [(.J o.kind),(.sc (.I (if R.defines o.kind=true then valD D o.dst else o.dst))),(.sc (.I (valD D o.a))),(.sc (.I (valD D o.b))),(.J o.n),(.J o.ctx),(.J o.var),(.J o.piece),(.J o.sk),(.J o.sv),(.J o.sa)])] 5 [.q (PX.Con Try.prog 135 [(.J o.a),(.ptr 1 0)] [(1,.box 139 [(.map 2)]),(2,.mp (iv D))] 5 5 (.sc (.I (valD D o.a))) [(1,some (.box 139 [.map 2])),(2,some (.mp (iv D)))]),.q (PX.Con Try.prog 135 [(.J o.b),(.ptr 1 0)] [(1,.box 139 [(.map 2)]),(2,.mp (iv D))] 5 5 (.sc (.I (valD D o.b))) [(1,some (.box 139 [.map 2])),(2,some (.mp (iv D)))])] [] [.au,.au,.au,.cl [1,2] (.sc (.I (valD D o.a))) [(1,some (.box 139 [.map 2])),(2,some (.mp (iv D)))] 5,.au,.au,.au,.cl [1,2] (.sc (.I (valD D o.b))) [(1,some (.box 139 [.map 2])),(2,some (.mp (iv D)))] 5,.au,.au,.au,.au] [1,2,4] [1,2,3,4] hS mixed hE ⟨PX.con_as [(1,1),(2,2)] [(1,1),(2,2)] (con_f135 D o.a) (by kernel_rfl) (by kernel_rfl) (by kernel_rfl) (by kernel_rfl) (by kernel_rfl) (by kernel_rfl),PX.con_as [(1,1),(2,2)] [(1,1),(2,2)] (con_f135 D o.b) (by kernel_rfl) (by kernel_rfl) (by kernel_rfl) (by kernel_rfl) (by kernel_rfl) (by kernel_rfl),trivial⟩ fun a w hS=>?_
         refine hK2 _ _ ?_
         refine PX.G [] [(4,.box 74 [(.J o.kind),(.sc (.I (if R.defines o.kind=true then valD D o.dst else o.dst))),(.sc (.I (valD D o.a))),(.sc (.I (valD D o.b))),(.J o.n),(.J o.ctx),(.J o.var),(.J o.piece),(.J o.sk),(.J o.sv),(.J o.sa)])] 5 [] [] [.au,.au] [1,4] [1,2,4] hS hE trivial fun a w hS=>?_
         refine wp_ret ?_
         try simp only [Exit.then,Exit.inBlock,Nat.reduceEqDiff,↓reduceIte]
         rw [show (.agg (encO (renP D o)))=((.agg [(.J o.kind),(.sc (.I (if R.defines o.kind=true then valD D o.dst else o.dst))),(.sc (.I (valD D o.a))),(.sc (.I (valD D o.b))),(.J o.n),(.J o.ctx),(.J o.var),(.J o.piece),(.J o.sk),(.J o.sv),(.J o.sa)]):PX.PV) from by unfold renP; simp only [h4,h6,h8,h10,h12,h14,h16,h17,if_true,Bool.false_eq_true,if_false] <;> rfl]
         exact PX.ret_s hS hE (by kernel_rfl) (by kernel_rfl) (by kernel_rfl) (.inl rfl)
end Go.Proofs.Ytlkcidmmpeebeaa
