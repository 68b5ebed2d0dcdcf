/- Proved: for every input,debuggerlaw09.MergeRaw returns true and leaves its argument as it was (Rows.MergeRawSaid). No conditions. -/
import Derived.Test.YtlkcidmmpeebeaaRows
import Derived.Test.YtlkcidmmpeebeaaMgX
import Derived.Test.YtlkcidmmpeebeaaOpB
import Derived.WalkKit
import Derived.ProofKit
import Derived.OpenShut
import Derived.ShutString
import Derived.ChangeOld
import Derived.Below
set_option linter.unusedVariables false
set_option linter.unusedSimpArgs false
namespace Go.Proofs.Ytlkcidmmpeebeaa.mergeRaw
open Go.ChangeShapes Go.WideShapes Go.ChangeAt Go.RowKit Go.PX
open Go.ChangeMaps (open_string shut_string)
set_option linter.unusedVariables false

theorem own:ownKnob Try.prog.godebug=none:=by kernel_rfl
theorem laidOut:laidOutB Try.prog=true:=by kernel_rfl

/-- a contract that owns nothing: a call that answers and writes nothing that was there -/
theorem below_of_eff {σ σ':Nm} {Z Z':Nat→Prop} {w w':World} (h:Eff σ Z w [] [] σ' Z' w'):Below w.heap.size w w' :=
  ⟨h.chg.os,h.chg.tape,h.chg.output,h.chg.size,fun k hk=>h.chg.block k hk fun ⟨id,o,c,q,_⟩=>q rfl⟩

theorem walk (v:Value) (c:CodeD) (w:World) (hi:CodeI c) (hl:c.blocks.length≤140737488351232) (hv:∀ σ,VR σ (Zw w) w v (codeP c)) :
    Calls Try.prog 9 #[v] w fun e w'=>e=.returned (.bool true)∧Below w.heap.size w w':=by
  refine (mergeRaw_con c hi hl w (fun _=>none) (Zw w) [v] ?_ (VRs.cons (hv _) VRs.nil) (fun _ _ _=>rfl)).mono fun e w' ⟨u,σ',Z',he,hu,hf⟩=>?_
  · exact { at_:=fun _ _ h=>(nomatch h),inj:=fun _ _ _ _ _ _ _ h=>(nomatch h),off:=fun _ _ _ _ h=>(nomatch h),zlt:=fun _ hb=>hb }
  · cases hu with
    | sc _ _=>exact ⟨he,below_of_eff hf⟩

/-! ### THE ROW's STEP: WRITTEN OUT: LEAVE IT -/
set_option maxRecDepth 100000 in
theorem lifted (os:Os) (started:os.Started) (H:Type) (enc:TypeId × Value→H) :
    ReturnsInHanded {} Try.checked os 9 .any (Rows.mergeRawSpec.pre6 enc Try.prog Try.f9 Rows.mergeRawRow.domain false) (Rows.mergeRawSpec.post enc Try.prog Try.f9 false true false false):=by
  refine returnsInHanded_of_change_sized (C:=Try.checked) own started (by kernel_rfl) Try.func9
    (ChangeSpec.witness6 (enc:=enc) (C:=Try.checked) false ⟨#[],#[.agg #[.int .i64 0,.slice none 0 0,.slice none 0 0,.slice none 0 0]],[]⟩ 8 (by kernel_rfl) (by kernel_rfl) (by kernel_rfl) (by kernel_rfl)) ?_
  intro W base args ds gs before hval0 hW hcnd hsz _
  have hval:∀ (j:Nat) t v,Try.f9.params[j]?=some t→args[j]?=some v→Value.okWide Try.prog W .any base t v:=hval0
  have hW':=hW
  obtain ⟨p,q,hA0,hV,rfl,hfz,hnd⟩:=hW
  have hA:DataW.TrodAll enc Try.prog W 0 (fun _=>true) true Try.f9.params.toList args.toList ds p:=hA0
  rw [Try.params9] at hA hval
  have hsz1:(DataW.weightsEach Try.prog (Try.f9.params.toList++Rows.mergeRawSpec.plain.varTypes Try.prog) (ds++gs)).all (·≤reachBytes)=true:=hsz
  rw [Try.params9] at hsz1
  obtain ⟨v0,vs0,d0,ds0,p0,q0,hargs,rfl,rfl,h0,r0⟩:=trodAll_cons hA
  obtain ⟨rfl,rfl,rfl⟩:=trodAll_nil r0
  obtain rfl:args=#[v0]:=by cases args; simp_all
  obtain ⟨rfl,rfl⟩:=trodVars_none hV
  have k0:=h0
  have lt0:∀ x∈p0,x.block<W.heap.size:=by obtain ⟨m,hm⟩:=k0; exact DataW.trod_lt m _ _ _ hm
  obtain ⟨cs,rfl,hcs⟩:=okWide_struct Try.underlying26 (hval 0 26 v0 rfl rfl)
  obtain ⟨c,hi,hl,hv⟩:∃ c:CodeD,CodeI c∧c.blocks.length≤140737488351232∧∀ (σ:Nm),VR σ (Zw W) W (.agg cs) (codeP c):=by
    obtain ⟨fuel,hf⟩:=h0
    have ho:Arg.Op enc Try.prog W fuel 26 cs.toList:=⟨_,by simpa [Value.cells] using hf,fun k hk=>by
      have:=List.all_eq_true.1 hsz1 k (DataW.weights_mem_each (j:=0) (t:=26) (d:=d0) rfl rfl k hk)
      exact of_decide_eq_true this⟩
    have h4:cs.toList.length=4:=by rw [Array.length_toList,hcs]; kernel_rfl
    simpa using open_code ho h4
  clear hA0 hval0
  refine (walk _ c W hi hl hv).mono fun e W' ⟨he,bel⟩=>?_
  subst he
  exact ⟨_,rfl,_,_,_,[],_,[],hW',trodAll_mk1 (shut_bool Try.underlying4 _),(trodAll_cons_mk (Below.trod laidOut (by kernel_rfl) (of_decide_eq_true (by kernel_rfl)) k0 bel lt0) trodAll_mk0),rfl,bel.frame _,fun h=>by cases h⟩

theorem over:Rows.mergeRawRow.holds Try.pinned (OpenSpec.ofChange Rows.mergeRawSpec) :=
  OpenClaim.holds_of_wide 9 Try.f9 rfl rfl rfl rfl rfl rfl rfl ⟨rfl,rfl,rfl,rfl,rfl⟩ rfl rfl rfl rfl rfl (by kernel_rfl) Try.func9 (by kernel_rfl)
    (of_decide_eq_true (by kernel_rfl)) (by unfold Func.isWrapper; first | (rw [if_pos (by decide +kernel)]; kernel_rfl) | (rw [if_neg (by decide +kernel)]; exact ⟨rfl,rfl⟩))
    (fun os started H enc _=>lifted os started H enc)

/-- ████ THE STATEMENT ████ -/
theorem proved:Rows.MergeRawSaid:=over
#print axioms proved
end Go.Proofs.Ytlkcidmmpeebeaa.mergeRaw
