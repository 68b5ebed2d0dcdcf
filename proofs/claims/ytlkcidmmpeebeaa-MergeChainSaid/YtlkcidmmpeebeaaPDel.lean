/- Proved: the contract of slices.Delete of one block,on plain data. -/
import Derived.Test.YtlkcidmmpeebeaaDel
import Derived.Test.YtlkcidmmpeebeaaPcP
set_option linter.unusedVariables false
set_option linter.unusedSimpArgs false
namespace Go.Proofs.Ytlkcidmmpeebeaa
open Go.RowKit Go.PX
theorem flat_cut2 {α:Type} {sz:Nat}:∀ (rows:List (List α)) (i:Nat),(∀ r∈rows,r.length=sz)→rows.flatten.take (i*sz)=(rows.take i).flatten∧rows.flatten.drop (i*sz)=(rows.drop i).flatten
  | [],i,_=>by simp
  | r::rows,0,_=>by simp
  | r::rows,i+1,h=>by
    have hr:=h r (by simp)
    obtain ⟨h1,h2⟩:=flat_cut2 rows i fun x hx=>h x (by simp [hx])
    have e:(i+1)*sz=r.length+i*sz:=by rw [hr,Nat.add_mul]; omega
    simp only [List.flatten_cons,List.take_succ_cons,List.drop_succ_cons]
    rw [e,List.take_length_add_append,List.drop_length_add_append,h1,h2]
    exact ⟨rfl,rfl⟩
set_option maxRecDepth 100000 in
theorem con_del (rows:List (List PV)) (i:Nat) (jj:Int) (hj:jj=((i+1:Nat):Int)) (hi0:1≤i) (hi:i<rows.length) (hl:rows.length≤100000):PX.Con Try.prog 118 [.own 1 10 rows.length,.sc (.int .i64 (i:Int)),.sc (.int .i64 jj)] [(1,.row 62 10 true rows)] 2 2 (.own 1 10 (rows.length-1)) [(1,some (.row 62 10 true (rows.eraseIdx i)))]:=by
  intro w σ Z vs hH hv hfr
  subst hj
  obtain ⟨v,vs1,rfl,hv1,hv⟩:=hv.inv
  obtain ⟨vi,vs2,rfl,hvi,hv⟩:=hv.inv
  obtain ⟨vj,vs3,rfl,hvj,hv⟩:=hv.inv
  obtain rfl:vs3=[]:=List.length_eq_zero_iff.1 (by simpa using hv.1)
  cases hvi
  cases hvj
  obtain ⟨h1,h2,h3⟩:=hH.at_ 1 _ rfl
  have key:∀ b c,σ 1=some (b,c)→v=.slice (some ⟨b,0,none⟩) rows.length c→Calls Try.prog 118 [v,.int .i64 (i:Int),.int .i64 ((i+1:Nat):Int)].toArray w (fun e w'=>∃ v' σ' Z',e=.returned v'∧VR σ' Z' w' v' (.own 1 10 (rows.length-1))∧Eff σ Z w [(1,.row 62 10 true rows)] [(1,some (.row 62 10 true (rows.eraseIdx i)))] σ' Z' w'):=by
    intro b c hs he
    subst he
    obtain ⟨C,q1,q2,q3,q4,q5⟩:=h3 b c hs
    have hlen:∀ r∈rows,r.length=10:=fun r hr=>(h1 r hr).1
    have hones:ones rows.flatten=true:=ones_flatten (sz:=10) h1
    refine (del_any b rows.length i (i+1) c rfl C w q1 q2 q3 (by simpa [maxLen] using q4) hl hi0 hi (q5.1.oneCell hones)).mono ?_
    rintro e w' ⟨C',rfl,p2,p3,p4,p5⟩
    have hw:Chg (fun x=>x=b) w w':=⟨p5.os,p5.tape,p5.output,p5.size,fun x hx hn=>p5.block x hx (by simpa using hn)⟩
    refine ⟨_,σ,Z,rfl,.own 1 10 _ b c hs,eff_upd hH rfl hs hw ⟨fun r hr=>h1 r (List.mem_of_mem_eraseIdx hr),⟨by have:=List.length_eraseIdx_le rows i; omega,fun _=>by rw [hs]; simp⟩,fun b' c' hb=>?_⟩⟩
    rw [hs] at hb; simp only [Option.some.injEq,Prod.mk.injEq] at hb; obtain ⟨rfl,rfl⟩:=hb
    have hel:(rows.eraseIdx i).length=rows.length-1:=List.length_eraseIdx_of_lt hi
    refine ⟨C',p2,p3,by omega,q4,?_⟩
    rw [hel,p4]
    obtain ⟨f1,_⟩:=flat_cut2 rows i hlen
    obtain ⟨_,f2⟩:=flat_cut2 rows (i+1) hlen
    have e1:C.take (i*10)=(C.take (rows.length*10)).take (i*10):=by rw [List.take_take,Nat.min_eq_left (by omega)]
    have e2:(rows.eraseIdx i).flatten=rows.flatten.take (i*10)++rows.flatten.drop ((i+1)*10):=by
      rw [f1,f2,List.eraseIdx_eq_take_drop_succ,List.flatten_append]
    rw [e1,e2]
    exact ((q5.take (i*10)).append (q5.drop ((i+1)*10))).mono (Ext.refl σ) (fun _ h=>h) hw (fun z hz e=>hH.off _ _ _ _ rfl hs (e ▸ hz))
  generalize hn:rows.length=n at hv1
  cases hv1 with
  | own _ _ _ b c hs=>subst hn; exact key b c hs rfl
  | own0=>omega
end Go.Proofs.Ytlkcidmmpeebeaa
