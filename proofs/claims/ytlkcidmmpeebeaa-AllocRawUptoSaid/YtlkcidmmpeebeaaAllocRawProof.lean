/- Proved: where what it reads is of bulk at most 1048576,debuggerlaw15.AllocRaw returns true (Rows.AllocRawUptoSaid). Condition: that bulk. -/
import Derived.Test.YtlkcidmmpeebeaaRows
import Derived.Test.YtlkcidmmpeebeaaPAlRaw
import Derived.Test.YtlkcidmmpeebeaaPcN
import Derived.WalkKit
import Derived.ProofKit
import Derived.Below
import Derived.OpenShut
import Derived.ShutString
import Derived.SizedLaws
import Derived.JoinedCond
set_option linter.unusedVariables false
set_option linter.unusedSimpArgs false
namespace Go.Proofs.Ytlkcidmmpeebeaa.allocRaw
open Go.ChangeShapes Go.WideShapes Go.ChangeAt Go.RowKit Go.PX
set_option linter.unusedVariables false

theorem own:ownKnob Try.prog.godebug=none:=by kernel_rfl
theorem laidOut:laidOutB Try.prog=true:=by kernel_rfl

theorem below_of_eff {σ σ':Nm} {Z Z':Nat→Prop} {w w':World} (h:Eff σ Z w [] [] σ' Z' w'):Below w.heap.size w w' :=
  ⟨h.chg.os,h.chg.tape,h.chg.output,h.chg.size,fun k hk=>h.chg.block k hk fun ⟨id,o,c,q,_⟩=>q rfl⟩
theorem walk (v:Value) (keep:Bool) (c:CodeD) (w:World) (hi:CodeI c) (hl:c.blocks.length≤140737488351232) (hargs:∀ b∈c.blocks,b.term.args0.length*8≤839909376∧b.term.args1.length*8≤839909376) (hv:∀ (σ:Nm),VR σ (Zw w) w v (codeP c)) :
    Calls Try.prog 7 #[v,.bool keep] w fun e w'=>e=.returned (.bool true)∧Below w.heap.size w w':=by
  refine (allocRaw_con keep c hi hl hargs w (fun _=>none) (Zw w) [v,.bool keep] ?_ (VRs.cons (hv _) (VRs.cons (.sc _ rfl) VRs.nil)) (fun _ _ _=>rfl)).mono fun e w' ⟨u,σ',Z',he,hu,hf⟩=>?_
  · exact { at_:=fun _ _ h=>(nomatch h),inj:=fun _ _ _ _ _ _ _ h=>(nomatch h),off:=fun _ _ _ _ h=>(nomatch h),zlt:=fun _ hb=>hb }
  · cases hu with
    | sc _ _=>exact ⟨he,below_of_eff hf⟩

set_option maxRecDepth 100000 in
theorem lifted (os:Os) (started:os.Started) (H:Type) (enc:TypeId × Value→H) (F0:Stop.Interp) :
    ReturnsInHanded {} Try.checked os 7 .any ((Rows.OpenSpec.upto Rows.allocRawSpec).pre6 enc Try.prog Try.f7 Rows.allocRawUptoRow.domain false) (((Rows.OpenSpec.upto Rows.allocRawSpec).at F0).post enc Try.prog Try.f7 false true false false):=by
  refine returnsInHanded_of_cond (C:=Try.checked) (s:=Rows.OpenSpec.upto Rows.allocRawSpec) (k:=Rows.uptoSmall) rfl own started (by kernel_rfl) Try.func7
    (OpenSpec.witness (enc:=enc) (C:=Try.checked) (s:=Rows.OpenSpec.upto Rows.allocRawSpec) (k:=Rows.uptoSmall) rfl false ⟨#[],#[.agg #[.int .i64 0,.slice none 0 0,.slice none 0 0,.slice none 0 0],.bool false],[]⟩ 8 (by kernel_rfl) (by kernel_rfl) (by kernel_rfl)
      (x:=([.agg [.lit (.int .i64 0),.nil,.nil,.nil],.lit (.bool false)],[],[])) (by kernel_rfl) (by kernel_rfl) (by kernel_rfl)) ?_
  intro W base args ds gs before hval0 hW _ hk _
  have hval:∀ (j:Nat) t v,Try.f7.params[j]?=some t→args[j]?=some v→Value.okWide Try.prog W .any base t v:=hval0
  have hW':=hW
  obtain ⟨p,q,hA0,hV,rfl,hfz,hnd⟩:=hW
  have hA:DataW.TrodAll enc Try.prog W 0 (fun _=>true) true Try.f7.params.toList args.toList ds p:=hA0
  rw [Try.params7] at hA hval
  obtain ⟨v0,vs0,d0,ds0,p0,q0,hargs,rfl,rfl,h0,r0⟩:=trodAll_cons hA
  obtain ⟨v1,vs1,d1,ds1,p1,q1,rfl,rfl,rfl,h1,r1⟩:=trodAll_cons r0
  obtain ⟨rfl,rfl,rfl⟩:=trodAll_nil r1
  obtain rfl:args=#[v0,v1]:=by cases args; simp_all
  obtain ⟨rfl,rfl⟩:=trodVars_none hV
  have k0:=h0
  have lt0:∀ x∈p0,x.block<W.heap.size:=by obtain ⟨m,hm⟩:=k0; exact DataW.trod_lt m _ _ _ hm
  obtain ⟨cs,rfl,hcs⟩:=okWide_struct Try.underlying26 (hval 0 26 v0 rfl rfl)
  obtain ⟨keep,rfl,rfl,rfl⟩:=open_bool Try.underlying4 (hval 1 4 v1 rfl rfl) h1
  have hk':Rows.uptoBulk d0≤1048576:=by
    have:=of_decide_eq_true hk
    simp only [List.cons_append,List.nil_append,List.append_nil,Rows.uptoBulkAll] at this
    omega
  obtain ⟨c,hi,hl,hac,hv⟩:∃ c:CodeD,CodeI c∧c.blocks.length≤140737488351232∧(∀ b∈c.blocks,b.term.args0.length*8≤839909376∧b.term.args1.length*8≤839909376)∧∀ (σ:Nm),VR σ (Zw W) W (.agg cs) (codeP c):=by
    obtain ⟨fuel,hf⟩:=h0
    have ho:ArgM.Op enc Try.prog W 839909376 fuel 26 cs.toList:=⟨_,by simpa [Value.cells] using hf,fun k hk=>by
      have:=w_bulk closed_code d0 26 (by decide) k hk
      omega⟩
    have h4:cs.toList.length=4:=by rw [Array.length_toList,hcs]; kernel_rfl
    simpa using open_code (by decide) ho h4
  clear hA0 hval0
  refine (walk _ keep c W hi hl hac hv).mono fun e W' ⟨he,bel⟩=>?_
  subst he
  exact ⟨_,rfl,_,_,_,[],_,[],hW',trodAll_mk1 (shut_bool Try.underlying4 _),(trodAll_cons_mk (Below.trod laidOut (by kernel_rfl) (of_decide_eq_true (by kernel_rfl)) k0 bel lt0) (trodAll_cons_mk (shut_bool Try.underlying4 _) trodAll_mk0)),rfl,bel.frame _,fun h=>by cases h⟩

theorem over:Rows.allocRawUptoRow.holds Try.pinned (Rows.OpenSpec.upto Rows.allocRawSpec) :=
  OpenClaim.holds_of_cond 7 Try.f7 rfl rfl rfl rfl rfl rfl rfl ⟨rfl,rfl,rfl,rfl,rfl⟩ rfl rfl rfl rfl rfl (by kernel_rfl) Try.func7 (by kernel_rfl)
    (of_decide_eq_true (by kernel_rfl)) (by unfold Func.isWrapper; first | (rw [if_pos (by decide +kernel)]; kernel_rfl) | (rw [if_neg (by decide +kernel)]; exact ⟨rfl,rfl⟩))
    (fun os started H enc _ F0=>lifted os started H enc F0)

/-- ████ THE STATEMENT ████ -/
theorem proved:Rows.AllocRawUptoSaid:=over
#print axioms proved
end Go.Proofs.Ytlkcidmmpeebeaa.allocRaw
