/- Proved: the iterator of merge.values gives the places of an operation's values. -/
import Derived.Test.YtlkcidmmpeebeaaPcP
import Derived.Test.YtlkcidmmpeebeaaMgP
import Derived.LoopIn
import Derived.WalkKit
import Derived.TacticsInMore
import Derived.Shelf.Abstract
import Derived.Shelf.RegionOpen
set_option linter.unusedVariables false
set_option linter.unusedSimpArgs false
namespace Go.Proofs.Ytlkcidmmpeebeaa
open Go.RowKit Go.Shelf
attribute [local go_sem] Oper.semAt_some

theorem ag_op {σ:PX.Nm} {Z:Nat→Prop} {W:World} (o:OpD):PX.VR σ Z W (opV o) (.agg (encO o)):=by
  refine .agg (opC o) (encO o) rfl rfl fun i u x hu hx=>?_
  match i,hu,hx with
  | 0,hu,hx | 1,hu,hx | 2,hu,hx | 3,hu,hx | 4,hu,hx | 5,hu,hx | 6,hu,hx | 7,hu,hx | 8,hu,hx | 9,hu,hx | 10,hu,hx =>
    simp only [opC,encO,List.getElem?_cons_zero,List.getElem?_cons_succ,Option.some.injEq] at hu hx
    subst hu; subst hx; exact .sc _ rfl
  | i+11,hu,hx=>simp [opC] at hu
theorem defm_calls (o:OpD) (W:World):Calls Try.prog 114 #[opV o] W fun e W'=>e=.returned (.bool (R.defines o.kind))∧W.grownBy W' none:=by
  refine (con_f114 o W (fun _=>none) (fun _=>False) [opV o] ⟨fun id o h=>by simp [PX.hlook] at h,fun id id' o o' b c c' h=>by simp [PX.hlook] at h,fun _ _ _ _ _ _ q=>q,fun _ q=>q.elim⟩ (.cons (ag_op o) .nil) (fun _ _ _=>rfl)).mono ?_
  rintro e W' ⟨v,σ',Z',rfl,h1,h2⟩
  refine ⟨by cases h1; rfl,⟨h2.chg.os,h2.chg.tape,h2.chg.output,h2.chg.size,fun b hb _=>h2.chg.block b hb fun ⟨_,_,_,_,q,_⟩=>by cases q⟩⟩
/-- the places of an operation's values -/
def vOff (k sk:Int):List Nat:=(if R.defines k=true then [1] else [])++(if R.usesA k=true then [2] else [])++(if R.usesB k=true then [3] else [])++(if (k==21&&sk==2)=true then [9] else [])

set_option linter.unusedSectionVars false
section
variable (n:Nat) (hn:1≤n) (l cb ob M:Nat) (k sk:Int) (hM:4≤M) (Q:World→Prop) (hQg:∀ A B,A.grownBy B none→Q A→Q B)
  (hQ:∀ W,Q W→W.cell? ⟨cb,0,none⟩=some (.pointer (some ⟨ob,0,none⟩))∧∃ o:OpD,o.kind=k∧o.sk=sk∧∀ j u,(opC o)[j]?=some u→W.cell? ⟨ob,j,none⟩=some u)
  (J Jx:List Nat→World→Prop) (hJ:∀ s A B,A.grownBy B none→J s A→J s B)
  (hY:∀ pre p W,p∈vOff k sk→J pre W→pre.length<M→YieldAt Fence.wide (n-1) Try.prog l #[.pointer (some ⟨ob,p,none⟩)] W fun e W'=>(e=.returned (.bool true)∧J (pre++[p]) W'∧(Q W→Q W'))∨(e=.returned (.bool false)∧Jx (pre++[p]) W'))
  (W:World) (hq:Q W) (h0:J [] W)
include hn hM hQg hQ hJ hY hq h0
set_option maxRecDepth 100000 in
set_option maxHeartbeats 4000000 in
theorem val_0 (hcl:k=1):CallsIn Fence.wide n Try.prog 148 #[.func (.yield l) #[] #[],.pointer (some ⟨cb,0,none⟩)] W fun e W'=>(∃ v,e=.returned v)∧((∃ ys,ys=vOff k sk∧J ys W')∨(∃ pre,pre <+: vOff k sk∧Jx pre W')):=by
  obtain ⟨hc,o,hk0,hk8,hcell⟩:=hQ W hq
  have hd:R.defines k=true:=by subst hcl; first | rfl | (simp [R.defines,R.usesA,R.usesB]; done) | (simp [R.defines,R.usesA,R.usesB]; omega) | (simp; done) | (simp; omega)
  have e:vOff k sk=[1]:=by
    have ha:R.usesA k=false:=by subst hcl; first | rfl | (simp [R.defines,R.usesA,R.usesB]; done) | (simp [R.defines,R.usesA,R.usesB]; omega) | (simp; done) | (simp; omega)
    have hb:R.usesB k=false:=by subst hcl; first | rfl | (simp [R.defines,R.usesA,R.usesB]; done) | (simp [R.defines,R.usesA,R.usesB]; omega) | (simp; done) | (simp; omega)
    have hs:(k==21&&sk==2)=false:=by subst hcl; first | rfl | (simp [R.defines,R.usesA,R.usesB]; done) | (simp [R.defines,R.usesA,R.usesB]; omega) | (simp; done) | (simp; omega)
    unfold vOff; rw [hd,ha,hb,hs]; rfl
  refine callsIn_of_wp Try.func148 rfl trivial ?_ rfl
  simp only [Try.ntmps148,List.size_toArray,List.length_cons,List.length_nil,Nat.reduceAdd,Nat.reduceSub,Array.replicate_succ,Array.replicate_zero,List.push_toArray,List.append_toArray,List.nil_append,List.cons_append]
  subst hcl
  have q0:=hcell 0 _ rfl
  have q1:=hcell 1 _ rfl
  have q2:=hcell 2 _ rfl
  have q3:=hcell 3 _ rfl
  have q4:=hcell 4 _ rfl
  have q5:=hcell 5 _ rfl
  have q6:=hcell 6 _ rfl
  have q7:=hcell 7 _ rfl
  have q8:=hcell 8 _ rfl
  have q9:=hcell 9 _ rfl
  have q10:=hcell 10 _ rfl
  clear hcell
  rw [hk0] at q0; rw [hk8] at q8
  gi_wp2
  refine ⟨trivial,(callsIn_wide.2 (by have:=defm_calls o W; unfold opV at this; rw [hk0,hk8] at this; exact this)).mono ?_⟩
  rintro ev W3 ⟨rfl,hg⟩
  have hQ':=hQg _ _ hg hq
  have hJ':=hJ _ _ _ hg h0
  clear q0 q1 q2 q3 q4 q5 q6 q7 q8 q9 q10 hc hg hq h0
  obtain ⟨hc,o4,hk0,hk8,hcell⟩:=hQ _ hQ'
  have q0:=hcell 0 _ rfl
  have q8:=hcell 8 _ rfl
  rw [hk0] at q0; rw [hk8] at q8
  clear hcell
  simp only [hd]
  obtain ⟨fn,tmps,assign,body,hy,hR⟩:=hY _ 1 _ (by rw [e]; simp) hJ' (by simp; try omega)
  gi_wp2
  repeat (refine ⟨fun _ h=>(nomatch h),?_⟩; gi_wp2)
  refine hR.mono ?_
  rintro ev W4 (⟨rfl,hJ4,hk4⟩ | ⟨rfl,hJx4⟩)
  · have hQ4:=hk4 hQ'
    clear hQ' hJ' hk4 q0 q8 hc
    obtain ⟨hc,o4,hk0,hk8,hcell⟩:=hQ _ hQ4
    have q0:=hcell 0 _ rfl
    have q8:=hcell 8 _ rfl
    rw [hk0] at q0; rw [hk8] at q8
    have hQ':=hQ4
    have hJ':=hJ4
    clear hcell hQ4 hJ4 hR hy
    gi_wp2
    repeat (refine ⟨fun _ h=>(nomatch h),?_⟩; gi_wp2)
    go_end0
    exact ⟨⟨_,rfl⟩,.inl (by first | exact hJ' | (rw [e]; exact ⟨_,rfl,hJ'⟩) | exact ⟨_,e.symm,hJ'⟩)⟩
  · skip
    gi_wp2
    repeat (refine ⟨fun _ h=>(nomatch h),?_⟩; gi_wp2)
    refine bodyPost_ret (results_none rfl _ _ _) rfl ?_
    exact ⟨⟨_,rfl⟩,.inr (by first | exact ⟨_,by rw [e]; decide,hJx4⟩ | (rw [e]; exact ⟨_,by decide,hJx4⟩))⟩
set_option maxRecDepth 100000 in
set_option maxHeartbeats 4000000 in
theorem val_1 (hcl:k=2):CallsIn Fence.wide n Try.prog 148 #[.func (.yield l) #[] #[],.pointer (some ⟨cb,0,none⟩)] W fun e W'=>(∃ v,e=.returned v)∧((∃ ys,ys=vOff k sk∧J ys W')∨(∃ pre,pre <+: vOff k sk∧Jx pre W')):=by
  obtain ⟨hc,o,hk0,hk8,hcell⟩:=hQ W hq
  have hd:R.defines k=true:=by subst hcl; first | rfl | (simp [R.defines,R.usesA,R.usesB]; done) | (simp [R.defines,R.usesA,R.usesB]; omega) | (simp; done) | (simp; omega)
  have e:vOff k sk=[1,2]:=by
    have ha:R.usesA k=true:=by subst hcl; first | rfl | (simp [R.defines,R.usesA,R.usesB]; done) | (simp [R.defines,R.usesA,R.usesB]; omega) | (simp; done) | (simp; omega)
    have hb:R.usesB k=false:=by subst hcl; first | rfl | (simp [R.defines,R.usesA,R.usesB]; done) | (simp [R.defines,R.usesA,R.usesB]; omega) | (simp; done) | (simp; omega)
    have hs:(k==21&&sk==2)=false:=by subst hcl; first | rfl | (simp [R.defines,R.usesA,R.usesB]; done) | (simp [R.defines,R.usesA,R.usesB]; omega) | (simp; done) | (simp; omega)
    unfold vOff; rw [hd,ha,hb,hs]; rfl
  refine callsIn_of_wp Try.func148 rfl trivial ?_ rfl
  simp only [Try.ntmps148,List.size_toArray,List.length_cons,List.length_nil,Nat.reduceAdd,Nat.reduceSub,Array.replicate_succ,Array.replicate_zero,List.push_toArray,List.append_toArray,List.nil_append,List.cons_append]
  subst hcl
  have q0:=hcell 0 _ rfl
  have q1:=hcell 1 _ rfl
  have q2:=hcell 2 _ rfl
  have q3:=hcell 3 _ rfl
  have q4:=hcell 4 _ rfl
  have q5:=hcell 5 _ rfl
  have q6:=hcell 6 _ rfl
  have q7:=hcell 7 _ rfl
  have q8:=hcell 8 _ rfl
  have q9:=hcell 9 _ rfl
  have q10:=hcell 10 _ rfl
  clear hcell
  rw [hk0] at q0; rw [hk8] at q8
  gi_wp2
  refine ⟨trivial,(callsIn_wide.2 (by have:=defm_calls o W; unfold opV at this; rw [hk0,hk8] at this; exact this)).mono ?_⟩
  rintro ev W3 ⟨rfl,hg⟩
  have hQ':=hQg _ _ hg hq
  have hJ':=hJ _ _ _ hg h0
  clear q0 q1 q2 q3 q4 q5 q6 q7 q8 q9 q10 hc hg hq h0
  obtain ⟨hc,o4,hk0,hk8,hcell⟩:=hQ _ hQ'
  have q0:=hcell 0 _ rfl
  have q8:=hcell 8 _ rfl
  rw [hk0] at q0; rw [hk8] at q8
  clear hcell
  simp only [hd]
  obtain ⟨fn,tmps,assign,body,hy,hR⟩:=hY _ 1 _ (by rw [e]; simp) hJ' (by simp; try omega)
  gi_wp2
  repeat (refine ⟨fun _ h=>(nomatch h),?_⟩; gi_wp2)
  refine hR.mono ?_
  rintro ev W4 (⟨rfl,hJ4,hk4⟩ | ⟨rfl,hJx4⟩)
  · have hQ4:=hk4 hQ'
    clear hQ' hJ' hk4 q0 q8 hc
    obtain ⟨hc,o4,hk0,hk8,hcell⟩:=hQ _ hQ4
    have q0:=hcell 0 _ rfl
    have q8:=hcell 8 _ rfl
    rw [hk0] at q0; rw [hk8] at q8
    have hQ':=hQ4
    have hJ':=hJ4
    clear hcell hQ4 hJ4 hR hy
    obtain ⟨fn,tmps,assign,body,hy,hR⟩:=hY _ 2 _ (by rw [e]; simp) hJ' (by simp; try omega)
    gi_wp2
    repeat (refine ⟨fun _ h=>(nomatch h),?_⟩; gi_wp2)
    refine hR.mono ?_
    rintro ev W4 (⟨rfl,hJ4,hk4⟩ | ⟨rfl,hJx4⟩)
    · have hQ4:=hk4 hQ'
      clear hQ' hJ' hk4 q0 q8 hc
      obtain ⟨hc,o4,hk0,hk8,hcell⟩:=hQ _ hQ4
      have q0:=hcell 0 _ rfl
      have q8:=hcell 8 _ rfl
      rw [hk0] at q0; rw [hk8] at q8
      have hQ':=hQ4
      have hJ':=hJ4
      clear hcell hQ4 hJ4 hR hy
      gi_wp2
      repeat (refine ⟨fun _ h=>(nomatch h),?_⟩; gi_wp2)
      go_end0
      exact ⟨⟨_,rfl⟩,.inl (by first | exact hJ' | (rw [e]; exact ⟨_,rfl,hJ'⟩) | exact ⟨_,e.symm,hJ'⟩)⟩
    · skip
      gi_wp2
      repeat (refine ⟨fun _ h=>(nomatch h),?_⟩; gi_wp2)
      refine bodyPost_ret (results_none rfl _ _ _) rfl ?_
      exact ⟨⟨_,rfl⟩,.inr (by first | exact ⟨_,by rw [e]; decide,hJx4⟩ | (rw [e]; exact ⟨_,by decide,hJx4⟩))⟩
  · skip
    gi_wp2
    repeat (refine ⟨fun _ h=>(nomatch h),?_⟩; gi_wp2)
    refine bodyPost_ret (results_none rfl _ _ _) rfl ?_
    exact ⟨⟨_,rfl⟩,.inr (by first | exact ⟨_,by rw [e]; decide,hJx4⟩ | (rw [e]; exact ⟨_,by decide,hJx4⟩))⟩
set_option maxRecDepth 100000 in
set_option maxHeartbeats 4000000 in
theorem val_2 (hcl:3≤k∧k≤14):CallsIn Fence.wide n Try.prog 148 #[.func (.yield l) #[] #[],.pointer (some ⟨cb,0,none⟩)] W fun e W'=>(∃ v,e=.returned v)∧((∃ ys,ys=vOff k sk∧J ys W')∨(∃ pre,pre <+: vOff k sk∧Jx pre W')):=by
  obtain ⟨hc,o,hk0,hk8,hcell⟩:=hQ W hq
  have hd:R.defines k=true:=by obtain ⟨h1,h2⟩:=hcl; first | rfl | (simp [R.defines,R.usesA,R.usesB]; done) | (simp [R.defines,R.usesA,R.usesB]; omega) | (simp; done) | (simp; omega)
  have e:vOff k sk=[1,2,3]:=by
    have ha:R.usesA k=true:=by obtain ⟨h1,h2⟩:=hcl; first | rfl | (simp [R.defines,R.usesA,R.usesB]; done) | (simp [R.defines,R.usesA,R.usesB]; omega) | (simp; done) | (simp; omega)
    have hb:R.usesB k=true:=by obtain ⟨h1,h2⟩:=hcl; first | rfl | (simp [R.defines,R.usesA,R.usesB]; done) | (simp [R.defines,R.usesA,R.usesB]; omega) | (simp; done) | (simp; omega)
    have hs:(k==21&&sk==2)=false:=by obtain ⟨h1,h2⟩:=hcl; first | rfl | (simp [R.defines,R.usesA,R.usesB]; done) | (simp [R.defines,R.usesA,R.usesB]; omega) | (simp; done) | (simp; omega)
    unfold vOff; rw [hd,ha,hb,hs]; rfl
  refine callsIn_of_wp Try.func148 rfl trivial ?_ rfl
  simp only [Try.ntmps148,List.size_toArray,List.length_cons,List.length_nil,Nat.reduceAdd,Nat.reduceSub,Array.replicate_succ,Array.replicate_zero,List.push_toArray,List.append_toArray,List.nil_append,List.cons_append]
  obtain ⟨h1,h2⟩:=hcl
  have q0:=hcell 0 _ rfl
  have q1:=hcell 1 _ rfl
  have q2:=hcell 2 _ rfl
  have q3:=hcell 3 _ rfl
  have q4:=hcell 4 _ rfl
  have q5:=hcell 5 _ rfl
  have q6:=hcell 6 _ rfl
  have q7:=hcell 7 _ rfl
  have q8:=hcell 8 _ rfl
  have q9:=hcell 9 _ rfl
  have q10:=hcell 10 _ rfl
  clear hcell
  rw [hk0] at q0; rw [hk8] at q8
  gi_wp2
  refine ⟨trivial,(callsIn_wide.2 (by have:=defm_calls o W; unfold opV at this; rw [hk0,hk8] at this; exact this)).mono ?_⟩
  rintro ev W3 ⟨rfl,hg⟩
  have hQ':=hQg _ _ hg hq
  have hJ':=hJ _ _ _ hg h0
  clear q0 q1 q2 q3 q4 q5 q6 q7 q8 q9 q10 hc hg hq h0
  obtain ⟨hc,o4,hk0,hk8,hcell⟩:=hQ _ hQ'
  have q0:=hcell 0 _ rfl
  have q8:=hcell 8 _ rfl
  rw [hk0] at q0; rw [hk8] at q8
  clear hcell
  simp only [hd]
  obtain ⟨fn,tmps,assign,body,hy,hR⟩:=hY _ 1 _ (by rw [e]; simp) hJ' (by simp; try omega)
  gi_wp2
  repeat (refine ⟨fun _ h=>(nomatch h),?_⟩; gi_wp2)
  refine hR.mono ?_
  rintro ev W4 (⟨rfl,hJ4,hk4⟩ | ⟨rfl,hJx4⟩)
  · have hQ4:=hk4 hQ'
    clear hQ' hJ' hk4 q0 q8 hc
    obtain ⟨hc,o4,hk0,hk8,hcell⟩:=hQ _ hQ4
    have q0:=hcell 0 _ rfl
    have q8:=hcell 8 _ rfl
    rw [hk0] at q0; rw [hk8] at q8
    have hQ':=hQ4
    have hJ':=hJ4
    clear hcell hQ4 hJ4 hR hy
    obtain ⟨fn,tmps,assign,body,hy,hR⟩:=hY _ 2 _ (by rw [e]; simp) hJ' (by simp; try omega)
    gi_wp2
    repeat (refine ⟨fun _ h=>(nomatch h),?_⟩; gi_wp2)
    refine hR.mono ?_
    rintro ev W4 (⟨rfl,hJ4,hk4⟩ | ⟨rfl,hJx4⟩)
    · have hQ4:=hk4 hQ'
      clear hQ' hJ' hk4 q0 q8 hc
      obtain ⟨hc,o4,hk0,hk8,hcell⟩:=hQ _ hQ4
      have q0:=hcell 0 _ rfl
      have q8:=hcell 8 _ rfl
      rw [hk0] at q0; rw [hk8] at q8
      have hQ':=hQ4
      have hJ':=hJ4
      clear hcell hQ4 hJ4 hR hy
      obtain ⟨fn,tmps,assign,body,hy,hR⟩:=hY _ 3 _ (by rw [e]; simp) hJ' (by simp; try omega)
      gi_wp2
      repeat (refine ⟨fun _ h=>(nomatch h),?_⟩; gi_wp2)
      refine hR.mono ?_
      rintro ev W4 (⟨rfl,hJ4,hk4⟩ | ⟨rfl,hJx4⟩)
      · have hQ4:=hk4 hQ'
        clear hQ' hJ' hk4 q0 q8 hc
        obtain ⟨hc,o4,hk0,hk8,hcell⟩:=hQ _ hQ4
        have q0:=hcell 0 _ rfl
        have q8:=hcell 8 _ rfl
        rw [hk0] at q0; rw [hk8] at q8
        have hQ':=hQ4
        have hJ':=hJ4
        clear hcell hQ4 hJ4 hR hy
        gi_wp2
        repeat (refine ⟨fun _ h=>(nomatch h),?_⟩; gi_wp2)
        go_end0
        exact ⟨⟨_,rfl⟩,.inl (by first | exact hJ' | (rw [e]; exact ⟨_,rfl,hJ'⟩) | exact ⟨_,e.symm,hJ'⟩)⟩
      · skip
        gi_wp2
        repeat (refine ⟨fun _ h=>(nomatch h),?_⟩; gi_wp2)
        refine bodyPost_ret (results_none rfl _ _ _) rfl ?_
        exact ⟨⟨_,rfl⟩,.inr (by first | exact ⟨_,by rw [e]; decide,hJx4⟩ | (rw [e]; exact ⟨_,by decide,hJx4⟩))⟩
    · skip
      gi_wp2
      repeat (refine ⟨fun _ h=>(nomatch h),?_⟩; gi_wp2)
      refine bodyPost_ret (results_none rfl _ _ _) rfl ?_
      exact ⟨⟨_,rfl⟩,.inr (by first | exact ⟨_,by rw [e]; decide,hJx4⟩ | (rw [e]; exact ⟨_,by decide,hJx4⟩))⟩
  · skip
    gi_wp2
    repeat (refine ⟨fun _ h=>(nomatch h),?_⟩; gi_wp2)
    refine bodyPost_ret (results_none rfl _ _ _) rfl ?_
    exact ⟨⟨_,rfl⟩,.inr (by first | exact ⟨_,by rw [e]; decide,hJx4⟩ | (rw [e]; exact ⟨_,by decide,hJx4⟩))⟩
set_option maxRecDepth 100000 in
set_option maxHeartbeats 4000000 in
theorem val_3 (hcl:k=15):CallsIn Fence.wide n Try.prog 148 #[.func (.yield l) #[] #[],.pointer (some ⟨cb,0,none⟩)] W fun e W'=>(∃ v,e=.returned v)∧((∃ ys,ys=vOff k sk∧J ys W')∨(∃ pre,pre <+: vOff k sk∧Jx pre W')):=by
  obtain ⟨hc,o,hk0,hk8,hcell⟩:=hQ W hq
  have hd:R.defines k=true:=by subst hcl; first | rfl | (simp [R.defines,R.usesA,R.usesB]; done) | (simp [R.defines,R.usesA,R.usesB]; omega) | (simp; done) | (simp; omega)
  have e:vOff k sk=[1,2]:=by
    have ha:R.usesA k=true:=by subst hcl; first | rfl | (simp [R.defines,R.usesA,R.usesB]; done) | (simp [R.defines,R.usesA,R.usesB]; omega) | (simp; done) | (simp; omega)
    have hb:R.usesB k=false:=by subst hcl; first | rfl | (simp [R.defines,R.usesA,R.usesB]; done) | (simp [R.defines,R.usesA,R.usesB]; omega) | (simp; done) | (simp; omega)
    have hs:(k==21&&sk==2)=false:=by subst hcl; first | rfl | (simp [R.defines,R.usesA,R.usesB]; done) | (simp [R.defines,R.usesA,R.usesB]; omega) | (simp; done) | (simp; omega)
    unfold vOff; rw [hd,ha,hb,hs]; rfl
  refine callsIn_of_wp Try.func148 rfl trivial ?_ rfl
  simp only [Try.ntmps148,List.size_toArray,List.length_cons,List.length_nil,Nat.reduceAdd,Nat.reduceSub,Array.replicate_succ,Array.replicate_zero,List.push_toArray,List.append_toArray,List.nil_append,List.cons_append]
  subst hcl
  have q0:=hcell 0 _ rfl
  have q1:=hcell 1 _ rfl
  have q2:=hcell 2 _ rfl
  have q3:=hcell 3 _ rfl
  have q4:=hcell 4 _ rfl
  have q5:=hcell 5 _ rfl
  have q6:=hcell 6 _ rfl
  have q7:=hcell 7 _ rfl
  have q8:=hcell 8 _ rfl
  have q9:=hcell 9 _ rfl
  have q10:=hcell 10 _ rfl
  clear hcell
  rw [hk0] at q0; rw [hk8] at q8
  gi_wp2
  refine ⟨trivial,(callsIn_wide.2 (by have:=defm_calls o W; unfold opV at this; rw [hk0,hk8] at this; exact this)).mono ?_⟩
  rintro ev W3 ⟨rfl,hg⟩
  have hQ':=hQg _ _ hg hq
  have hJ':=hJ _ _ _ hg h0
  clear q0 q1 q2 q3 q4 q5 q6 q7 q8 q9 q10 hc hg hq h0
  obtain ⟨hc,o4,hk0,hk8,hcell⟩:=hQ _ hQ'
  have q0:=hcell 0 _ rfl
  have q8:=hcell 8 _ rfl
  rw [hk0] at q0; rw [hk8] at q8
  clear hcell
  simp only [hd]
  obtain ⟨fn,tmps,assign,body,hy,hR⟩:=hY _ 1 _ (by rw [e]; simp) hJ' (by simp; try omega)
  gi_wp2
  repeat (refine ⟨fun _ h=>(nomatch h),?_⟩; gi_wp2)
  refine hR.mono ?_
  rintro ev W4 (⟨rfl,hJ4,hk4⟩ | ⟨rfl,hJx4⟩)
  · have hQ4:=hk4 hQ'
    clear hQ' hJ' hk4 q0 q8 hc
    obtain ⟨hc,o4,hk0,hk8,hcell⟩:=hQ _ hQ4
    have q0:=hcell 0 _ rfl
    have q8:=hcell 8 _ rfl
    rw [hk0] at q0; rw [hk8] at q8
    have hQ':=hQ4
    have hJ':=hJ4
    clear hcell hQ4 hJ4 hR hy
    obtain ⟨fn,tmps,assign,body,hy,hR⟩:=hY _ 2 _ (by rw [e]; simp) hJ' (by simp; try omega)
    gi_wp2
    repeat (refine ⟨fun _ h=>(nomatch h),?_⟩; gi_wp2)
    refine hR.mono ?_
    rintro ev W4 (⟨rfl,hJ4,hk4⟩ | ⟨rfl,hJx4⟩)
    · have hQ4:=hk4 hQ'
      clear hQ' hJ' hk4 q0 q8 hc
      obtain ⟨hc,o4,hk0,hk8,hcell⟩:=hQ _ hQ4
      have q0:=hcell 0 _ rfl
      have q8:=hcell 8 _ rfl
      rw [hk0] at q0; rw [hk8] at q8
      have hQ':=hQ4
      have hJ':=hJ4
      clear hcell hQ4 hJ4 hR hy
      gi_wp2
      repeat (refine ⟨fun _ h=>(nomatch h),?_⟩; gi_wp2)
      go_end0
      exact ⟨⟨_,rfl⟩,.inl (by first | exact hJ' | (rw [e]; exact ⟨_,rfl,hJ'⟩) | exact ⟨_,e.symm,hJ'⟩)⟩
    · skip
      gi_wp2
      repeat (refine ⟨fun _ h=>(nomatch h),?_⟩; gi_wp2)
      refine bodyPost_ret (results_none rfl _ _ _) rfl ?_
      exact ⟨⟨_,rfl⟩,.inr (by first | exact ⟨_,by rw [e]; decide,hJx4⟩ | (rw [e]; exact ⟨_,by decide,hJx4⟩))⟩
  · skip
    gi_wp2
    repeat (refine ⟨fun _ h=>(nomatch h),?_⟩; gi_wp2)
    refine bodyPost_ret (results_none rfl _ _ _) rfl ?_
    exact ⟨⟨_,rfl⟩,.inr (by first | exact ⟨_,by rw [e]; decide,hJx4⟩ | (rw [e]; exact ⟨_,by decide,hJx4⟩))⟩
set_option maxRecDepth 100000 in
set_option maxHeartbeats 4000000 in
theorem val_4 (hcl:k=16):CallsIn Fence.wide n Try.prog 148 #[.func (.yield l) #[] #[],.pointer (some ⟨cb,0,none⟩)] W fun e W'=>(∃ v,e=.returned v)∧((∃ ys,ys=vOff k sk∧J ys W')∨(∃ pre,pre <+: vOff k sk∧Jx pre W')):=by
  obtain ⟨hc,o,hk0,hk8,hcell⟩:=hQ W hq
  have hd:R.defines k=false:=by subst hcl; first | rfl | (simp [R.defines,R.usesA,R.usesB]; done) | (simp [R.defines,R.usesA,R.usesB]; omega) | (simp; done) | (simp; omega)
  have e:vOff k sk=[2,3]:=by
    have ha:R.usesA k=true:=by subst hcl; first | rfl | (simp [R.defines,R.usesA,R.usesB]; done) | (simp [R.defines,R.usesA,R.usesB]; omega) | (simp; done) | (simp; omega)
    have hb:R.usesB k=true:=by subst hcl; first | rfl | (simp [R.defines,R.usesA,R.usesB]; done) | (simp [R.defines,R.usesA,R.usesB]; omega) | (simp; done) | (simp; omega)
    have hs:(k==21&&sk==2)=false:=by subst hcl; first | rfl | (simp [R.defines,R.usesA,R.usesB]; done) | (simp [R.defines,R.usesA,R.usesB]; omega) | (simp; done) | (simp; omega)
    unfold vOff; rw [hd,ha,hb,hs]; rfl
  refine callsIn_of_wp Try.func148 rfl trivial ?_ rfl
  simp only [Try.ntmps148,List.size_toArray,List.length_cons,List.length_nil,Nat.reduceAdd,Nat.reduceSub,Array.replicate_succ,Array.replicate_zero,List.push_toArray,List.append_toArray,List.nil_append,List.cons_append]
  subst hcl
  have q0:=hcell 0 _ rfl
  have q1:=hcell 1 _ rfl
  have q2:=hcell 2 _ rfl
  have q3:=hcell 3 _ rfl
  have q4:=hcell 4 _ rfl
  have q5:=hcell 5 _ rfl
  have q6:=hcell 6 _ rfl
  have q7:=hcell 7 _ rfl
  have q8:=hcell 8 _ rfl
  have q9:=hcell 9 _ rfl
  have q10:=hcell 10 _ rfl
  clear hcell
  rw [hk0] at q0; rw [hk8] at q8
  gi_wp2
  refine ⟨trivial,(callsIn_wide.2 (by have:=defm_calls o W; unfold opV at this; rw [hk0,hk8] at this; exact this)).mono ?_⟩
  rintro ev W3 ⟨rfl,hg⟩
  have hQ':=hQg _ _ hg hq
  have hJ':=hJ _ _ _ hg h0
  clear q0 q1 q2 q3 q4 q5 q6 q7 q8 q9 q10 hc hg hq h0
  obtain ⟨hc,o4,hk0,hk8,hcell⟩:=hQ _ hQ'
  have q0:=hcell 0 _ rfl
  have q8:=hcell 8 _ rfl
  rw [hk0] at q0; rw [hk8] at q8
  clear hcell
  simp only [hd]
  obtain ⟨fn,tmps,assign,body,hy,hR⟩:=hY _ 2 _ (by rw [e]; simp) hJ' (by simp; try omega)
  gi_wp2
  repeat (refine ⟨fun _ h=>(nomatch h),?_⟩; gi_wp2)
  refine hR.mono ?_
  rintro ev W4 (⟨rfl,hJ4,hk4⟩ | ⟨rfl,hJx4⟩)
  · have hQ4:=hk4 hQ'
    clear hQ' hJ' hk4 q0 q8 hc
    obtain ⟨hc,o4,hk0,hk8,hcell⟩:=hQ _ hQ4
    have q0:=hcell 0 _ rfl
    have q8:=hcell 8 _ rfl
    rw [hk0] at q0; rw [hk8] at q8
    have hQ':=hQ4
    have hJ':=hJ4
    clear hcell hQ4 hJ4 hR hy
    obtain ⟨fn,tmps,assign,body,hy,hR⟩:=hY _ 3 _ (by rw [e]; simp) hJ' (by simp; try omega)
    gi_wp2
    repeat (refine ⟨fun _ h=>(nomatch h),?_⟩; gi_wp2)
    refine hR.mono ?_
    rintro ev W4 (⟨rfl,hJ4,hk4⟩ | ⟨rfl,hJx4⟩)
    · have hQ4:=hk4 hQ'
      clear hQ' hJ' hk4 q0 q8 hc
      obtain ⟨hc,o4,hk0,hk8,hcell⟩:=hQ _ hQ4
      have q0:=hcell 0 _ rfl
      have q8:=hcell 8 _ rfl
      rw [hk0] at q0; rw [hk8] at q8
      have hQ':=hQ4
      have hJ':=hJ4
      clear hcell hQ4 hJ4 hR hy
      gi_wp2
      repeat (refine ⟨fun _ h=>(nomatch h),?_⟩; gi_wp2)
      go_end0
      exact ⟨⟨_,rfl⟩,.inl (by first | exact hJ' | (rw [e]; exact ⟨_,rfl,hJ'⟩) | exact ⟨_,e.symm,hJ'⟩)⟩
    · skip
      gi_wp2
      repeat (refine ⟨fun _ h=>(nomatch h),?_⟩; gi_wp2)
      refine bodyPost_ret (results_none rfl _ _ _) rfl ?_
      exact ⟨⟨_,rfl⟩,.inr (by first | exact ⟨_,by rw [e]; decide,hJx4⟩ | (rw [e]; exact ⟨_,by decide,hJx4⟩))⟩
  · skip
    gi_wp2
    repeat (refine ⟨fun _ h=>(nomatch h),?_⟩; gi_wp2)
    refine bodyPost_ret (results_none rfl _ _ _) rfl ?_
    exact ⟨⟨_,rfl⟩,.inr (by first | exact ⟨_,by rw [e]; decide,hJx4⟩ | (rw [e]; exact ⟨_,by decide,hJx4⟩))⟩
set_option maxRecDepth 100000 in
set_option maxHeartbeats 4000000 in
theorem val_5 (hcl:k=18):CallsIn Fence.wide n Try.prog 148 #[.func (.yield l) #[] #[],.pointer (some ⟨cb,0,none⟩)] W fun e W'=>(∃ v,e=.returned v)∧((∃ ys,ys=vOff k sk∧J ys W')∨(∃ pre,pre <+: vOff k sk∧Jx pre W')):=by
  obtain ⟨hc,o,hk0,hk8,hcell⟩:=hQ W hq
  have hd:R.defines k=false:=by subst hcl; first | rfl | (simp [R.defines,R.usesA,R.usesB]; done) | (simp [R.defines,R.usesA,R.usesB]; omega) | (simp; done) | (simp; omega)
  have e:vOff k sk=[2]:=by
    have ha:R.usesA k=true:=by subst hcl; first | rfl | (simp [R.defines,R.usesA,R.usesB]; done) | (simp [R.defines,R.usesA,R.usesB]; omega) | (simp; done) | (simp; omega)
    have hb:R.usesB k=false:=by subst hcl; first | rfl | (simp [R.defines,R.usesA,R.usesB]; done) | (simp [R.defines,R.usesA,R.usesB]; omega) | (simp; done) | (simp; omega)
    have hs:(k==21&&sk==2)=false:=by subst hcl; first | rfl | (simp [R.defines,R.usesA,R.usesB]; done) | (simp [R.defines,R.usesA,R.usesB]; omega) | (simp; done) | (simp; omega)
    unfold vOff; rw [hd,ha,hb,hs]; rfl
  refine callsIn_of_wp Try.func148 rfl trivial ?_ rfl
  simp only [Try.ntmps148,List.size_toArray,List.length_cons,List.length_nil,Nat.reduceAdd,Nat.reduceSub,Array.replicate_succ,Array.replicate_zero,List.push_toArray,List.append_toArray,List.nil_append,List.cons_append]
  subst hcl
  have q0:=hcell 0 _ rfl
  have q1:=hcell 1 _ rfl
  have q2:=hcell 2 _ rfl
  have q3:=hcell 3 _ rfl
  have q4:=hcell 4 _ rfl
  have q5:=hcell 5 _ rfl
  have q6:=hcell 6 _ rfl
  have q7:=hcell 7 _ rfl
  have q8:=hcell 8 _ rfl
  have q9:=hcell 9 _ rfl
  have q10:=hcell 10 _ rfl
  clear hcell
  rw [hk0] at q0; rw [hk8] at q8
  gi_wp2
  refine ⟨trivial,(callsIn_wide.2 (by have:=defm_calls o W; unfold opV at this; rw [hk0,hk8] at this; exact this)).mono ?_⟩
  rintro ev W3 ⟨rfl,hg⟩
  have hQ':=hQg _ _ hg hq
  have hJ':=hJ _ _ _ hg h0
  clear q0 q1 q2 q3 q4 q5 q6 q7 q8 q9 q10 hc hg hq h0
  obtain ⟨hc,o4,hk0,hk8,hcell⟩:=hQ _ hQ'
  have q0:=hcell 0 _ rfl
  have q8:=hcell 8 _ rfl
  rw [hk0] at q0; rw [hk8] at q8
  clear hcell
  simp only [hd]
  obtain ⟨fn,tmps,assign,body,hy,hR⟩:=hY _ 2 _ (by rw [e]; simp) hJ' (by simp; try omega)
  gi_wp2
  repeat (refine ⟨fun _ h=>(nomatch h),?_⟩; gi_wp2)
  refine hR.mono ?_
  rintro ev W4 (⟨rfl,hJ4,hk4⟩ | ⟨rfl,hJx4⟩)
  · have hQ4:=hk4 hQ'
    clear hQ' hJ' hk4 q0 q8 hc
    obtain ⟨hc,o4,hk0,hk8,hcell⟩:=hQ _ hQ4
    have q0:=hcell 0 _ rfl
    have q8:=hcell 8 _ rfl
    rw [hk0] at q0; rw [hk8] at q8
    have hQ':=hQ4
    have hJ':=hJ4
    clear hcell hQ4 hJ4 hR hy
    gi_wp2
    repeat (refine ⟨fun _ h=>(nomatch h),?_⟩; gi_wp2)
    go_end0
    exact ⟨⟨_,rfl⟩,.inl (by first | exact hJ' | (rw [e]; exact ⟨_,rfl,hJ'⟩) | exact ⟨_,e.symm,hJ'⟩)⟩
  · skip
    gi_wp2
    repeat (refine ⟨fun _ h=>(nomatch h),?_⟩; gi_wp2)
    refine bodyPost_ret (results_none rfl _ _ _) rfl ?_
    exact ⟨⟨_,rfl⟩,.inr (by first | exact ⟨_,by rw [e]; decide,hJx4⟩ | (rw [e]; exact ⟨_,by decide,hJx4⟩))⟩
set_option maxRecDepth 100000 in
set_option maxHeartbeats 4000000 in
theorem val_6 (hcl:k=21∧sk=2):CallsIn Fence.wide n Try.prog 148 #[.func (.yield l) #[] #[],.pointer (some ⟨cb,0,none⟩)] W fun e W'=>(∃ v,e=.returned v)∧((∃ ys,ys=vOff k sk∧J ys W')∨(∃ pre,pre <+: vOff k sk∧Jx pre W')):=by
  obtain ⟨hc,o,hk0,hk8,hcell⟩:=hQ W hq
  have hd:R.defines k=false:=by rcases hcl with ⟨rfl,h2⟩; first | rfl | (simp [R.defines,R.usesA,R.usesB]; done) | (simp [R.defines,R.usesA,R.usesB]; omega) | (simp; done) | (simp; omega)
  have e:vOff k sk=[9]:=by
    have ha:R.usesA k=false:=by rcases hcl with ⟨rfl,h2⟩; first | rfl | (simp [R.defines,R.usesA,R.usesB]; done) | (simp [R.defines,R.usesA,R.usesB]; omega) | (simp; done) | (simp; omega)
    have hb:R.usesB k=false:=by rcases hcl with ⟨rfl,h2⟩; first | rfl | (simp [R.defines,R.usesA,R.usesB]; done) | (simp [R.defines,R.usesA,R.usesB]; omega) | (simp; done) | (simp; omega)
    have hs:(k==21&&sk==2)=true:=by rcases hcl with ⟨rfl,h2⟩; first | rfl | (simp [R.defines,R.usesA,R.usesB]; done) | (simp [R.defines,R.usesA,R.usesB]; omega) | (simp; done) | (simp; omega)
    unfold vOff; rw [hd,ha,hb,hs]; rfl
  refine callsIn_of_wp Try.func148 rfl trivial ?_ rfl
  simp only [Try.ntmps148,List.size_toArray,List.length_cons,List.length_nil,Nat.reduceAdd,Nat.reduceSub,Array.replicate_succ,Array.replicate_zero,List.push_toArray,List.append_toArray,List.nil_append,List.cons_append]
  rcases hcl with ⟨rfl,h2⟩
  subst h2
  have q0:=hcell 0 _ rfl
  have q1:=hcell 1 _ rfl
  have q2:=hcell 2 _ rfl
  have q3:=hcell 3 _ rfl
  have q4:=hcell 4 _ rfl
  have q5:=hcell 5 _ rfl
  have q6:=hcell 6 _ rfl
  have q7:=hcell 7 _ rfl
  have q8:=hcell 8 _ rfl
  have q9:=hcell 9 _ rfl
  have q10:=hcell 10 _ rfl
  clear hcell
  rw [hk0] at q0; rw [hk8] at q8
  gi_wp2
  refine ⟨trivial,(callsIn_wide.2 (by have:=defm_calls o W; unfold opV at this; rw [hk0,hk8] at this; exact this)).mono ?_⟩
  rintro ev W3 ⟨rfl,hg⟩
  have hQ':=hQg _ _ hg hq
  have hJ':=hJ _ _ _ hg h0
  clear q0 q1 q2 q3 q4 q5 q6 q7 q8 q9 q10 hc hg hq h0
  obtain ⟨hc,o4,hk0,hk8,hcell⟩:=hQ _ hQ'
  have q0:=hcell 0 _ rfl
  have q8:=hcell 8 _ rfl
  rw [hk0] at q0; rw [hk8] at q8
  clear hcell
  simp only [hd]
  obtain ⟨fn,tmps,assign,body,hy,hR⟩:=hY _ 9 _ (by rw [e]; simp) hJ' (by simp; try omega)
  gi_wp2
  repeat (refine ⟨fun _ h=>(nomatch h),?_⟩; gi_wp2)
  refine hR.mono ?_
  rintro ev W4 (⟨rfl,hJ4,hk4⟩ | ⟨rfl,hJx4⟩)
  · have hQ4:=hk4 hQ'
    clear hQ' hJ' hk4 q0 q8 hc
    obtain ⟨hc,o4,hk0,hk8,hcell⟩:=hQ _ hQ4
    have q0:=hcell 0 _ rfl
    have q8:=hcell 8 _ rfl
    rw [hk0] at q0; rw [hk8] at q8
    have hQ':=hQ4
    have hJ':=hJ4
    clear hcell hQ4 hJ4 hR hy
    gi_wp2
    repeat (refine ⟨fun _ h=>(nomatch h),?_⟩; gi_wp2)
    go_end0
    exact ⟨⟨_,rfl⟩,.inl (by first | exact hJ' | (rw [e]; exact ⟨_,rfl,hJ'⟩) | exact ⟨_,e.symm,hJ'⟩)⟩
  · skip
    gi_wp2
    repeat (refine ⟨fun _ h=>(nomatch h),?_⟩; gi_wp2)
    go_end0
    exact ⟨⟨_,rfl⟩,.inr (by first | exact ⟨_,by rw [e]; decide,hJx4⟩ | (rw [e]; exact ⟨_,by decide,hJx4⟩))⟩
set_option maxRecDepth 100000 in
set_option maxHeartbeats 4000000 in
theorem val_7 (hcl:k=21∧¬ sk=2):CallsIn Fence.wide n Try.prog 148 #[.func (.yield l) #[] #[],.pointer (some ⟨cb,0,none⟩)] W fun e W'=>(∃ v,e=.returned v)∧((∃ ys,ys=vOff k sk∧J ys W')∨(∃ pre,pre <+: vOff k sk∧Jx pre W')):=by
  obtain ⟨hc,o,hk0,hk8,hcell⟩:=hQ W hq
  have hd:R.defines k=false:=by rcases hcl with ⟨rfl,h2⟩; first | rfl | (simp [R.defines,R.usesA,R.usesB]; done) | (simp [R.defines,R.usesA,R.usesB]; omega) | (simp; done) | (simp; omega)
  have e:vOff k sk=[]:=by
    have ha:R.usesA k=false:=by rcases hcl with ⟨rfl,h2⟩; first | rfl | (simp [R.defines,R.usesA,R.usesB]; done) | (simp [R.defines,R.usesA,R.usesB]; omega) | (simp; done) | (simp; omega)
    have hb:R.usesB k=false:=by rcases hcl with ⟨rfl,h2⟩; first | rfl | (simp [R.defines,R.usesA,R.usesB]; done) | (simp [R.defines,R.usesA,R.usesB]; omega) | (simp; done) | (simp; omega)
    have hs:(k==21&&sk==2)=false:=by rcases hcl with ⟨rfl,h2⟩; first | rfl | (simp [R.defines,R.usesA,R.usesB]; done) | (simp [R.defines,R.usesA,R.usesB]; omega) | (simp; done) | (simp; omega)
    unfold vOff; rw [hd,ha,hb,hs]; rfl
  refine callsIn_of_wp Try.func148 rfl trivial ?_ rfl
  simp only [Try.ntmps148,List.size_toArray,List.length_cons,List.length_nil,Nat.reduceAdd,Nat.reduceSub,Array.replicate_succ,Array.replicate_zero,List.push_toArray,List.append_toArray,List.nil_append,List.cons_append]
  rcases hcl with ⟨rfl,h2⟩
  have q0:=hcell 0 _ rfl
  have q1:=hcell 1 _ rfl
  have q2:=hcell 2 _ rfl
  have q3:=hcell 3 _ rfl
  have q4:=hcell 4 _ rfl
  have q5:=hcell 5 _ rfl
  have q6:=hcell 6 _ rfl
  have q7:=hcell 7 _ rfl
  have q8:=hcell 8 _ rfl
  have q9:=hcell 9 _ rfl
  have q10:=hcell 10 _ rfl
  clear hcell
  rw [hk0] at q0; rw [hk8] at q8
  gi_wp2
  refine ⟨trivial,(callsIn_wide.2 (by have:=defm_calls o W; unfold opV at this; rw [hk0,hk8] at this; exact this)).mono ?_⟩
  rintro ev W3 ⟨rfl,hg⟩
  have hQ':=hQg _ _ hg hq
  have hJ':=hJ _ _ _ hg h0
  clear q0 q1 q2 q3 q4 q5 q6 q7 q8 q9 q10 hc hg hq h0
  obtain ⟨hc,o4,hk0,hk8,hcell⟩:=hQ _ hQ'
  have q0:=hcell 0 _ rfl
  have q8:=hcell 8 _ rfl
  rw [hk0] at q0; rw [hk8] at q8
  clear hcell
  simp only [hd]
  gi_wp2
  repeat (refine ⟨fun _ h=>(nomatch h),?_⟩; gi_wp2)
  go_end0
  exact ⟨⟨_,rfl⟩,.inl (by first | exact hJ' | (rw [e]; exact ⟨_,rfl,hJ'⟩) | exact ⟨_,e.symm,hJ'⟩)⟩
set_option maxRecDepth 100000 in
set_option maxHeartbeats 4000000 in
theorem val_8 (hcl:k<1):CallsIn Fence.wide n Try.prog 148 #[.func (.yield l) #[] #[],.pointer (some ⟨cb,0,none⟩)] W fun e W'=>(∃ v,e=.returned v)∧((∃ ys,ys=vOff k sk∧J ys W')∨(∃ pre,pre <+: vOff k sk∧Jx pre W')):=by
  obtain ⟨hc,o,hk0,hk8,hcell⟩:=hQ W hq
  have hd:R.defines k=false:=by first | rfl | (simp [R.defines,R.usesA,R.usesB]; done) | (simp [R.defines,R.usesA,R.usesB]; omega) | (simp; done) | (simp; omega)
  have e:vOff k sk=[]:=by
    have ha:R.usesA k=false:=by first | rfl | (simp [R.defines,R.usesA,R.usesB]; done) | (simp [R.defines,R.usesA,R.usesB]; omega) | (simp; done) | (simp; omega)
    have hb:R.usesB k=false:=by first | rfl | (simp [R.defines,R.usesA,R.usesB]; done) | (simp [R.defines,R.usesA,R.usesB]; omega) | (simp; done) | (simp; omega)
    have hs:(k==21&&sk==2)=false:=by first | rfl | (simp [R.defines,R.usesA,R.usesB]; done) | (simp [R.defines,R.usesA,R.usesB]; omega) | (simp; done) | (simp; omega)
    unfold vOff; rw [hd,ha,hb,hs]; rfl
  refine callsIn_of_wp Try.func148 rfl trivial ?_ rfl
  simp only [Try.ntmps148,List.size_toArray,List.length_cons,List.length_nil,Nat.reduceAdd,Nat.reduceSub,Array.replicate_succ,Array.replicate_zero,List.push_toArray,List.append_toArray,List.nil_append,List.cons_append]
  have q0:=hcell 0 _ rfl
  have q1:=hcell 1 _ rfl
  have q2:=hcell 2 _ rfl
  have q3:=hcell 3 _ rfl
  have q4:=hcell 4 _ rfl
  have q5:=hcell 5 _ rfl
  have q6:=hcell 6 _ rfl
  have q7:=hcell 7 _ rfl
  have q8:=hcell 8 _ rfl
  have q9:=hcell 9 _ rfl
  have q10:=hcell 10 _ rfl
  clear hcell
  rw [hk0] at q0; rw [hk8] at q8
  gi_wp2
  refine ⟨trivial,(callsIn_wide.2 (by have:=defm_calls o W; unfold opV at this; rw [hk0,hk8] at this; exact this)).mono ?_⟩
  rintro ev W3 ⟨rfl,hg⟩
  have hQ':=hQg _ _ hg hq
  have hJ':=hJ _ _ _ hg h0
  clear q0 q1 q2 q3 q4 q5 q6 q7 q8 q9 q10 hc hg hq h0
  obtain ⟨hc,o4,hk0,hk8,hcell⟩:=hQ _ hQ'
  have q0:=hcell 0 _ rfl
  have q8:=hcell 8 _ rfl
  rw [hk0] at q0; rw [hk8] at q8
  clear hcell
  simp only [hd]
  gi_wp2
  repeat (refine ⟨fun _ h=>(nomatch h),?_⟩; gi_wp2)
  go_end0
  exact ⟨⟨_,rfl⟩,.inl (by first | exact hJ' | (rw [e]; exact ⟨_,rfl,hJ'⟩) | exact ⟨_,e.symm,hJ'⟩)⟩
set_option maxRecDepth 100000 in
set_option maxHeartbeats 4000000 in
theorem val_9 (hcl:k=17):CallsIn Fence.wide n Try.prog 148 #[.func (.yield l) #[] #[],.pointer (some ⟨cb,0,none⟩)] W fun e W'=>(∃ v,e=.returned v)∧((∃ ys,ys=vOff k sk∧J ys W')∨(∃ pre,pre <+: vOff k sk∧Jx pre W')):=by
  obtain ⟨hc,o,hk0,hk8,hcell⟩:=hQ W hq
  have hd:R.defines k=false:=by subst hcl; first | rfl | (simp [R.defines,R.usesA,R.usesB]; done) | (simp [R.defines,R.usesA,R.usesB]; omega) | (simp; done) | (simp; omega)
  have e:vOff k sk=[]:=by
    have ha:R.usesA k=false:=by subst hcl; first | rfl | (simp [R.defines,R.usesA,R.usesB]; done) | (simp [R.defines,R.usesA,R.usesB]; omega) | (simp; done) | (simp; omega)
    have hb:R.usesB k=false:=by subst hcl; first | rfl | (simp [R.defines,R.usesA,R.usesB]; done) | (simp [R.defines,R.usesA,R.usesB]; omega) | (simp; done) | (simp; omega)
    have hs:(k==21&&sk==2)=false:=by subst hcl; first | rfl | (simp [R.defines,R.usesA,R.usesB]; done) | (simp [R.defines,R.usesA,R.usesB]; omega) | (simp; done) | (simp; omega)
    unfold vOff; rw [hd,ha,hb,hs]; rfl
  refine callsIn_of_wp Try.func148 rfl trivial ?_ rfl
  simp only [Try.ntmps148,List.size_toArray,List.length_cons,List.length_nil,Nat.reduceAdd,Nat.reduceSub,Array.replicate_succ,Array.replicate_zero,List.push_toArray,List.append_toArray,List.nil_append,List.cons_append]
  subst hcl
  have q0:=hcell 0 _ rfl
  have q1:=hcell 1 _ rfl
  have q2:=hcell 2 _ rfl
  have q3:=hcell 3 _ rfl
  have q4:=hcell 4 _ rfl
  have q5:=hcell 5 _ rfl
  have q6:=hcell 6 _ rfl
  have q7:=hcell 7 _ rfl
  have q8:=hcell 8 _ rfl
  have q9:=hcell 9 _ rfl
  have q10:=hcell 10 _ rfl
  clear hcell
  rw [hk0] at q0; rw [hk8] at q8
  gi_wp2
  refine ⟨trivial,(callsIn_wide.2 (by have:=defm_calls o W; unfold opV at this; rw [hk0,hk8] at this; exact this)).mono ?_⟩
  rintro ev W3 ⟨rfl,hg⟩
  have hQ':=hQg _ _ hg hq
  have hJ':=hJ _ _ _ hg h0
  clear q0 q1 q2 q3 q4 q5 q6 q7 q8 q9 q10 hc hg hq h0
  obtain ⟨hc,o4,hk0,hk8,hcell⟩:=hQ _ hQ'
  have q0:=hcell 0 _ rfl
  have q8:=hcell 8 _ rfl
  rw [hk0] at q0; rw [hk8] at q8
  clear hcell
  simp only [hd]
  gi_wp2
  repeat (refine ⟨fun _ h=>(nomatch h),?_⟩; gi_wp2)
  go_end0
  exact ⟨⟨_,rfl⟩,.inl (by first | exact hJ' | (rw [e]; exact ⟨_,rfl,hJ'⟩) | exact ⟨_,e.symm,hJ'⟩)⟩
set_option maxRecDepth 100000 in
set_option maxHeartbeats 4000000 in
theorem val_10 (hcl:k=19):CallsIn Fence.wide n Try.prog 148 #[.func (.yield l) #[] #[],.pointer (some ⟨cb,0,none⟩)] W fun e W'=>(∃ v,e=.returned v)∧((∃ ys,ys=vOff k sk∧J ys W')∨(∃ pre,pre <+: vOff k sk∧Jx pre W')):=by
  obtain ⟨hc,o,hk0,hk8,hcell⟩:=hQ W hq
  have hd:R.defines k=false:=by subst hcl; first | rfl | (simp [R.defines,R.usesA,R.usesB]; done) | (simp [R.defines,R.usesA,R.usesB]; omega) | (simp; done) | (simp; omega)
  have e:vOff k sk=[]:=by
    have ha:R.usesA k=false:=by subst hcl; first | rfl | (simp [R.defines,R.usesA,R.usesB]; done) | (simp [R.defines,R.usesA,R.usesB]; omega) | (simp; done) | (simp; omega)
    have hb:R.usesB k=false:=by subst hcl; first | rfl | (simp [R.defines,R.usesA,R.usesB]; done) | (simp [R.defines,R.usesA,R.usesB]; omega) | (simp; done) | (simp; omega)
    have hs:(k==21&&sk==2)=false:=by subst hcl; first | rfl | (simp [R.defines,R.usesA,R.usesB]; done) | (simp [R.defines,R.usesA,R.usesB]; omega) | (simp; done) | (simp; omega)
    unfold vOff; rw [hd,ha,hb,hs]; rfl
  refine callsIn_of_wp Try.func148 rfl trivial ?_ rfl
  simp only [Try.ntmps148,List.size_toArray,List.length_cons,List.length_nil,Nat.reduceAdd,Nat.reduceSub,Array.replicate_succ,Array.replicate_zero,List.push_toArray,List.append_toArray,List.nil_append,List.cons_append]
  subst hcl
  have q0:=hcell 0 _ rfl
  have q1:=hcell 1 _ rfl
  have q2:=hcell 2 _ rfl
  have q3:=hcell 3 _ rfl
  have q4:=hcell 4 _ rfl
  have q5:=hcell 5 _ rfl
  have q6:=hcell 6 _ rfl
  have q7:=hcell 7 _ rfl
  have q8:=hcell 8 _ rfl
  have q9:=hcell 9 _ rfl
  have q10:=hcell 10 _ rfl
  clear hcell
  rw [hk0] at q0; rw [hk8] at q8
  gi_wp2
  refine ⟨trivial,(callsIn_wide.2 (by have:=defm_calls o W; unfold opV at this; rw [hk0,hk8] at this; exact this)).mono ?_⟩
  rintro ev W3 ⟨rfl,hg⟩
  have hQ':=hQg _ _ hg hq
  have hJ':=hJ _ _ _ hg h0
  clear q0 q1 q2 q3 q4 q5 q6 q7 q8 q9 q10 hc hg hq h0
  obtain ⟨hc,o4,hk0,hk8,hcell⟩:=hQ _ hQ'
  have q0:=hcell 0 _ rfl
  have q8:=hcell 8 _ rfl
  rw [hk0] at q0; rw [hk8] at q8
  clear hcell
  simp only [hd]
  gi_wp2
  repeat (refine ⟨fun _ h=>(nomatch h),?_⟩; gi_wp2)
  go_end0
  exact ⟨⟨_,rfl⟩,.inl (by first | exact hJ' | (rw [e]; exact ⟨_,rfl,hJ'⟩) | exact ⟨_,e.symm,hJ'⟩)⟩
set_option maxRecDepth 100000 in
set_option maxHeartbeats 4000000 in
theorem val_11 (hcl:k=20):CallsIn Fence.wide n Try.prog 148 #[.func (.yield l) #[] #[],.pointer (some ⟨cb,0,none⟩)] W fun e W'=>(∃ v,e=.returned v)∧((∃ ys,ys=vOff k sk∧J ys W')∨(∃ pre,pre <+: vOff k sk∧Jx pre W')):=by
  obtain ⟨hc,o,hk0,hk8,hcell⟩:=hQ W hq
  have hd:R.defines k=false:=by subst hcl; first | rfl | (simp [R.defines,R.usesA,R.usesB]; done) | (simp [R.defines,R.usesA,R.usesB]; omega) | (simp; done) | (simp; omega)
  have e:vOff k sk=[]:=by
    have ha:R.usesA k=false:=by subst hcl; first | rfl | (simp [R.defines,R.usesA,R.usesB]; done) | (simp [R.defines,R.usesA,R.usesB]; omega) | (simp; done) | (simp; omega)
    have hb:R.usesB k=false:=by subst hcl; first | rfl | (simp [R.defines,R.usesA,R.usesB]; done) | (simp [R.defines,R.usesA,R.usesB]; omega) | (simp; done) | (simp; omega)
    have hs:(k==21&&sk==2)=false:=by subst hcl; first | rfl | (simp [R.defines,R.usesA,R.usesB]; done) | (simp [R.defines,R.usesA,R.usesB]; omega) | (simp; done) | (simp; omega)
    unfold vOff; rw [hd,ha,hb,hs]; rfl
  refine callsIn_of_wp Try.func148 rfl trivial ?_ rfl
  simp only [Try.ntmps148,List.size_toArray,List.length_cons,List.length_nil,Nat.reduceAdd,Nat.reduceSub,Array.replicate_succ,Array.replicate_zero,List.push_toArray,List.append_toArray,List.nil_append,List.cons_append]
  subst hcl
  have q0:=hcell 0 _ rfl
  have q1:=hcell 1 _ rfl
  have q2:=hcell 2 _ rfl
  have q3:=hcell 3 _ rfl
  have q4:=hcell 4 _ rfl
  have q5:=hcell 5 _ rfl
  have q6:=hcell 6 _ rfl
  have q7:=hcell 7 _ rfl
  have q8:=hcell 8 _ rfl
  have q9:=hcell 9 _ rfl
  have q10:=hcell 10 _ rfl
  clear hcell
  rw [hk0] at q0; rw [hk8] at q8
  gi_wp2
  refine ⟨trivial,(callsIn_wide.2 (by have:=defm_calls o W; unfold opV at this; rw [hk0,hk8] at this; exact this)).mono ?_⟩
  rintro ev W3 ⟨rfl,hg⟩
  have hQ':=hQg _ _ hg hq
  have hJ':=hJ _ _ _ hg h0
  clear q0 q1 q2 q3 q4 q5 q6 q7 q8 q9 q10 hc hg hq h0
  obtain ⟨hc,o4,hk0,hk8,hcell⟩:=hQ _ hQ'
  have q0:=hcell 0 _ rfl
  have q8:=hcell 8 _ rfl
  rw [hk0] at q0; rw [hk8] at q8
  clear hcell
  simp only [hd]
  gi_wp2
  repeat (refine ⟨fun _ h=>(nomatch h),?_⟩; gi_wp2)
  go_end0
  exact ⟨⟨_,rfl⟩,.inl (by first | exact hJ' | (rw [e]; exact ⟨_,rfl,hJ'⟩) | exact ⟨_,e.symm,hJ'⟩)⟩
set_option maxRecDepth 100000 in
set_option maxHeartbeats 4000000 in
theorem val_12 (hcl:21<k):CallsIn Fence.wide n Try.prog 148 #[.func (.yield l) #[] #[],.pointer (some ⟨cb,0,none⟩)] W fun e W'=>(∃ v,e=.returned v)∧((∃ ys,ys=vOff k sk∧J ys W')∨(∃ pre,pre <+: vOff k sk∧Jx pre W')):=by
  obtain ⟨hc,o,hk0,hk8,hcell⟩:=hQ W hq
  have hd:R.defines k=false:=by first | rfl | (simp [R.defines,R.usesA,R.usesB]; done) | (simp [R.defines,R.usesA,R.usesB]; omega) | (simp; done) | (simp; omega)
  have e:vOff k sk=[]:=by
    have ha:R.usesA k=false:=by first | rfl | (simp [R.defines,R.usesA,R.usesB]; done) | (simp [R.defines,R.usesA,R.usesB]; omega) | (simp; done) | (simp; omega)
    have hb:R.usesB k=false:=by first | rfl | (simp [R.defines,R.usesA,R.usesB]; done) | (simp [R.defines,R.usesA,R.usesB]; omega) | (simp; done) | (simp; omega)
    have hs:(k==21&&sk==2)=false:=by first | rfl | (simp [R.defines,R.usesA,R.usesB]; done) | (simp [R.defines,R.usesA,R.usesB]; omega) | (simp; done) | (simp; omega)
    unfold vOff; rw [hd,ha,hb,hs]; rfl
  refine callsIn_of_wp Try.func148 rfl trivial ?_ rfl
  simp only [Try.ntmps148,List.size_toArray,List.length_cons,List.length_nil,Nat.reduceAdd,Nat.reduceSub,Array.replicate_succ,Array.replicate_zero,List.push_toArray,List.append_toArray,List.nil_append,List.cons_append]
  have q0:=hcell 0 _ rfl
  have q1:=hcell 1 _ rfl
  have q2:=hcell 2 _ rfl
  have q3:=hcell 3 _ rfl
  have q4:=hcell 4 _ rfl
  have q5:=hcell 5 _ rfl
  have q6:=hcell 6 _ rfl
  have q7:=hcell 7 _ rfl
  have q8:=hcell 8 _ rfl
  have q9:=hcell 9 _ rfl
  have q10:=hcell 10 _ rfl
  clear hcell
  rw [hk0] at q0; rw [hk8] at q8
  gi_wp2
  refine ⟨trivial,(callsIn_wide.2 (by have:=defm_calls o W; unfold opV at this; rw [hk0,hk8] at this; exact this)).mono ?_⟩
  rintro ev W3 ⟨rfl,hg⟩
  have hQ':=hQg _ _ hg hq
  have hJ':=hJ _ _ _ hg h0
  clear q0 q1 q2 q3 q4 q5 q6 q7 q8 q9 q10 hc hg hq h0
  obtain ⟨hc,o4,hk0,hk8,hcell⟩:=hQ _ hQ'
  have q0:=hcell 0 _ rfl
  have q8:=hcell 8 _ rfl
  rw [hk0] at q0; rw [hk8] at q8
  clear hcell
  simp only [hd]
  gi_wp2
  repeat (refine ⟨fun _ h=>(nomatch h),?_⟩; gi_wp2)
  go_end0
  exact ⟨⟨_,rfl⟩,.inl (by first | exact hJ' | (rw [e]; exact ⟨_,rfl,hJ'⟩) | exact ⟨_,e.symm,hJ'⟩)⟩
theorem val_in:CallsIn Fence.wide n Try.prog 148 #[.func (.yield l) #[] #[],.pointer (some ⟨cb,0,none⟩)] W fun e W'=>(∃ v,e=.returned v)∧((∃ ys,ys=vOff k sk∧J ys W')∨(∃ pre,pre <+: vOff k sk∧Jx pre W')):=by
  have hcl:(k=1)∨(k=2)∨(3≤k∧k≤14)∨(k=15)∨(k=16)∨(k=18)∨(k=21∧sk=2)∨(k=21∧¬ sk=2)∨(k<1)∨(k=17)∨(k=19)∨(k=20)∨(21<k):=by omega
  rcases hcl with h | h | h | h | h | h | h | h | h | h | h | h | h
  · exact val_0 n hn l cb ob M k sk hM Q hQg hQ J Jx hJ hY W hq h0 h
  · exact val_1 n hn l cb ob M k sk hM Q hQg hQ J Jx hJ hY W hq h0 h
  · exact val_2 n hn l cb ob M k sk hM Q hQg hQ J Jx hJ hY W hq h0 h
  · exact val_3 n hn l cb ob M k sk hM Q hQg hQ J Jx hJ hY W hq h0 h
  · exact val_4 n hn l cb ob M k sk hM Q hQg hQ J Jx hJ hY W hq h0 h
  · exact val_5 n hn l cb ob M k sk hM Q hQg hQ J Jx hJ hY W hq h0 h
  · exact val_6 n hn l cb ob M k sk hM Q hQg hQ J Jx hJ hY W hq h0 h
  · exact val_7 n hn l cb ob M k sk hM Q hQg hQ J Jx hJ hY W hq h0 h
  · exact val_8 n hn l cb ob M k sk hM Q hQg hQ J Jx hJ hY W hq h0 h
  · exact val_9 n hn l cb ob M k sk hM Q hQg hQ J Jx hJ hY W hq h0 h
  · exact val_10 n hn l cb ob M k sk hM Q hQg hQ J Jx hJ hY W hq h0 h
  · exact val_11 n hn l cb ob M k sk hM Q hQg hQ J Jx hJ hY W hq h0 h
  · exact val_12 n hn l cb ob M k sk hM Q hQg hQ J Jx hJ hY W hq h0 h
end
end Go.Proofs.Ytlkcidmmpeebeaa
