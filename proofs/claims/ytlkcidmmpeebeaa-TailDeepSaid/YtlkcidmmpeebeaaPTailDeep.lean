/- Proved: TailDeep on plain data -/
import Derived.Test.YtlkcidmmpeebeaaTdD
set_option linter.unusedVariables false
set_option linter.unusedSimpArgs false
namespace Go.Proofs.Ytlkcidmmpeebeaa
open Go.RowKit Go.PX
set_option maxRecDepth 100000
def modD (n k:Int):Int:=if Int.tmod n k<0 then IntKind.i64.wrap (Int.tmod n k+k) else Int.tmod n k
theorem modD_range {n k:Int} (hk:0<k) (hk2:k≤1000000):0≤modD n k∧modD n k<k:=by
 have h1:Int.tmod n k<k:=Int.tmod_lt_of_pos n hk
 have h2:-k<Int.tmod n k:=by
  have:=Int.tmod_lt_of_pos (-n) hk
  rw [Int.neg_tmod] at this; omega
 unfold modD
 split
 ·rw [IntWalk.i64_in _ (by omega)]; omega
 ·omega

set_option maxHeartbeats 400000 in
theorem con_f19_1000 (n:Int):PX.Con Try.prog 19 [(.J n),(.J 1000)] [] 1 100000 (.sc (.I (modD n 1000))) []:=by
 refine PX.con_intro [(.J n),(.J 1000)] 14 Try.func19 rfl rfl (by kernel_rfl) (by kernel_rfl) ?_
 intro E a hE hS
 generalize E.w0=w at hS ⊢
 have mix:=mixed
 refine PX.G [] [] 1 [] [] [.au] [0,1] [] hS hE trivial fun a w hS=>?_
 refine PX.G [(.e 0 (.sc (.I (Int.tmod n 1000))))] [] 1 [] [] [.au,.au,.au,.au] [0,1] [] hS hE trivial fun a w hS=>?_
 refine wp_seq_k fun K1 hK1=>?_
 refine PX.G [(.e 9 (.sc (.bool (decide ((Int.tmod n 1000)<0)))))] [] 1 [] [] [.au,.au] [0,1,9] [] hS hE trivial fun a w hS=>?_
 refine PX.cond_s (decide ((Int.tmod n 1000)<0)) hS (by kernel_rfl) (fun h2=>?_) (fun h2=>?_)
 ·skip
  refine PX.G0 [(.e 0 (.sc (.I (IntKind.i64.wrap ((Int.tmod n 1000)+1000)))))] [] 1 [] [] [.au,.au,.au,.au] [0] [] hS hE trivial fun a w hS=>?_
  refine hK1 _ _ ?_
  refine PX.G [(.e 4 (.sc (.I (IntKind.i64.wrap ((Int.tmod n 1000)+1000)))))] [] 1 [] [] [.au,.au] [4] [] hS hE trivial fun a w hS=>?_
  refine wp_ret ?_
  rw [show (.sc (.I (modD n 1000)))=((.sc (.I (IntKind.i64.wrap ((Int.tmod n 1000)+1000)))):PX.PV) from by unfold modD; rw [if_pos (of_decide_eq_true h2)]]
  exact PX.rt hS hE (.inl rfl)
 ·skip
  refine wp_skip ?_
  refine hK1 _ _ ?_
  refine PX.G [(.e 4 (.sc (.I (Int.tmod n 1000))))] [] 1 [] [] [.au,.au] [4] [] hS hE trivial fun a w hS=>?_
  refine wp_ret ?_
  rw [show (.sc (.I (modD n 1000)))=((.sc (.I (Int.tmod n 1000))):PX.PV) from by unfold modD; rw [if_neg (of_decide_eq_false h2)]]
  exact PX.rt hS hE (.inl rfl)

set_option maxHeartbeats 1000000 in
theorem tailDeep_con (n:Int):PX.Con Try.prog 4 [(.J n)] [] 1 100000 (.sc (.bool true)) []:=by
 refine PX.con_intro [(.J n)] 51 Try.func4 rfl rfl (by kernel_rfl) (by kernel_rfl) ?_
 intro E a hE hS
 generalize E.w0=w at hS ⊢
 have mix:=mixed
 refine PX.G [] [] 1 [] [] [.au] [0] [] hS hE trivial fun a w hS=>?_
 refine PX.G [(.e 3 (.sc (.I (modD n 1000))))] [] 1 [.q (PX.Con Try.prog 19 [(.J n),(.J 1000)] [] 1 1 (.sc (.I (modD n 1000))) [])] [] [.au,.cl [] (.sc (.I (modD n 1000))) [] 1,.au] [3] [] hS hE ⟨PX.con_any (con_f19_1000 n),trivial⟩ fun a w hS=>?_
 have hk0:=modD_range (n:=n) (k:=1000) (by omega) (by omega)
 generalize modD n 1000=kk at hS hk0
 obtain ⟨k,rfl⟩:=Int.eq_ofNat_of_zero_le hk0.1
 have htl:=tail_run k 0 (by omega) (by omega) (by omega)
 obtain ⟨F,pv,hpl⟩:=plain_run k (by omega)
 refine PX.G [(.e 5 (.ptr 3 0))] [(3,.box 37 [(.J 0),(.sc (.bool false)),(.J 5),(.sc (.slice none 0 0))])] 4 [.q (PX.Con Try.prog 21 [(.sc (.bool false))] [] 1 1 (codeP downF) []),.q (PX.Con Try.prog 15 [(codeP downF)] [] 1 1 (codeP tF) []),.q (PX.Con Try.prog 20 [(.agg [(.sc (.slice none 0 0)),(.sc (.slice none 0 0)),(.sc (.slice none 0 0)),(.sc (.slice none 0 0))]),(.agg [(.imm 4 ([(codeL tF)]))]),(.J 0),(.imm 1 ([[(.sc (.I (k:Int)))]])),(.J 1),(.J 0),(.J 0)] [] 3 3 (.tup [(.sc (.slice none 0 0)),(.agg [(.J 0),(.sc (.bool false)),(.J 5),(.sc (.slice none 0 0))])]) []),.b (PX.lenIs 1 ([(codeL tF)])),.b (PX.lenIs 1 ([[(.sc (.I (k:Int)))]]))] [] [.au,.cl [] (codeP downF) [] 1,.cl [] (codeP tF) [] 1,.au,.au,.au,.au,.cv [1,2] (.tup [(.sc (.slice none 0 0)),(.agg [(.J 0),(.sc (.bool false)),(.J 5),(.sc (.slice none 0 0))])]) 3,.au,.au,.au,.au,.au,.au] [3,5] [3] hS hE ⟨PX.con_any con_downF,con_tailF,PX.con_any (con_f20 tF codeI_tF simple_T fit_T 1 (2*k+3) [(k:Int)] 0 5 htl (by simp) (by omega) rfl),rfl,rfl,trivial⟩ fun a w hS=>?_
 refine PX.G [(.e 7 (.ptr 6 0))] [(6,.box 37 [(.sc (.I (if decide ((20:Int)≤(k:Int))=true then 5 else 0))),(.sc (.bool false)),(.J pv),(.sc (.slice none 0 0))])] 7 [.q (PX.Con Try.prog 21 [(.sc (.bool false))] [] 4 4 (codeP downF) []),.q (PX.Con Try.prog 20 [(.agg [(.sc (.slice none 0 0)),(.sc (.slice none 0 0)),(.sc (.slice none 0 0)),(.sc (.slice none 0 0))]),(.agg [(.imm 4 ([(codeL downF)]))]),(.J 0),(.imm 1 ([[(.sc (.I (k:Int)))]])),(.J 1),(.J 0),(.J 0)] [] 6 6 (.tup [(.sc (.slice none 0 0)),(.agg [(.sc (.I (if decide ((20:Int)≤(k:Int))=true then 5 else 0))),(.sc (.bool false)),(.J pv),(.sc (.slice none 0 0))])]) []),.b (PX.lenIs 1 ([(codeL downF)])),.b (PX.lenIs 1 ([[(.sc (.I (k:Int)))]]))] [] [.au,.cl [] (codeP downF) [] 4,.au,.au,.au,.au,.cv [4,5] (.tup [(.sc (.slice none 0 0)),(.agg [(.sc (.I (if decide ((20:Int)≤(k:Int))=true then 5 else 0))),(.sc (.bool false)),(.J pv),(.sc (.slice none 0 0))])]) 6,.au,.au,.au,.au,.au,.au] [3,5,7] [3,6] hS hE ⟨PX.con_any con_downF,PX.con_any (con_f20 downF codeI_F simple_F fit_F 1 F [(k:Int)] (if decide ((20:Int)≤(k:Int))=true then 5 else 0) pv hpl (by simp) (by omega) rfl),rfl,rfl,trivial⟩ fun a w hS=>?_
 refine PX.G [(.e 8 (.J 0))] [] 7 [] [] [.au] [3,5,7,8] [3,6] hS hE trivial fun a w hS=>?_
 refine wp_seq_k fun K1 hK1=>?_
 refine PX.G [(.e 33 (.sc (.bool (decide (20≤(k:Int))))))] [] 7 [] [] [.au,.au] [5,7,8,33] [3,6] hS hE trivial fun a w hS=>?_
 refine PX.cond_s (decide (20≤(k:Int))) hS (by kernel_rfl) (fun h2=>?_) (fun h2=>?_)
 ·skip
  replace hS:=PX.recell (id:=6) (j:=0) (.sc (.I 5)) hS rfl rfl rfl (fun _ _ _ _ h=>(show PX.PV.sc (.I (if decide ((20:Int)≤(k:Int))=true then 5 else 0))=.sc (.I 5) from by rw [h2]; rfl) ▸ h)
  refine PX.G0 [(.e 8 (.J 5))] [] 7 [] [] [.au] [5,7,8] [3,6] hS hE trivial fun a w hS=>?_
  refine hK1 _ _ ?_
  refine PX.G [(.e 2 (.sc (.bool true)))] [] 7 [.q (PX.Con Try.prog 14 [] [] 7 7 (.sc (.bool true)) [])] [] [.au,.au,.au,.au,.au,.au,.au,.au,.au,.au,.au,.au,.au,.au,.au,.cl [] (.sc (.bool true)) [] 7,.au,.au] [2] [] hS hE ⟨con_known14,trivial⟩ fun a w hS=>?_
  refine wp_ret ?_
  exact PX.rt hS hE (.inl rfl)
 ·skip
  replace hS:=PX.recell (id:=6) (j:=0) (.sc (.I 0)) hS rfl rfl rfl (fun _ _ _ _ h=>(show PX.PV.sc (.I (if decide ((20:Int)≤(k:Int))=true then 5 else 0))=.sc (.I 0) from by rw [h2]; rfl) ▸ h)
  refine wp_skip ?_
  refine hK1 _ _ ?_
  refine PX.G [(.e 2 (.sc (.bool true)))] [] 7 [.q (PX.Con Try.prog 14 [] [] 7 7 (.sc (.bool true)) [])] [] [.au,.au,.au,.au,.au,.au,.au,.au,.au,.au,.au,.au,.au,.au,.au,.cl [] (.sc (.bool true)) [] 7,.au,.au] [2] [] hS hE ⟨con_known14,trivial⟩ fun a w hS=>?_
  refine wp_ret ?_
  exact PX.rt hS hE (.inl rfl)
end Go.Proofs.Ytlkcidmmpeebeaa
